/- The law SkipParts over lists. No condition: lemmas. -/
import Derived.Test.YtpfnalokeeidkaaDoorC
set_option linter.unusedVariables false
set_option linter.unusedSimpArgs false
namespace Go.Proofs.YtpfnalokeeidkaaDoor
open Go Go.X Go.Proofs.YtpfnalokeeidkaaDoor.G
set_option maxRecDepth 100000
set_option maxHeartbeats 1600000
set_option linter.unusedVariables false
set_option linter.unusedSimpArgs false
variable {H : AH} {S : LS} {K : KF}
theorem r3a : f3_rr.1 = f7 := rfl
theorem r3b : f3_rr.2.1 = f8 := rfl
theorem r3c : f3_rr.2.2.1 = f9 := rfl
theorem r3d : f3_rr.2.2.2.1 = f10 := rfl
theorem r3e : f3_rr.2.2.2.2.1 = f11 := rfl
theorem r3f : f3_rr.2.2.2.2.2 = f12 := rfl
theorem partL_front (L : List Sc) {k : Nat} (h : 0 < k) (hk : k ≤ L.length) : partL L 0 ((k : Int) - 1) = L.take k := by
  unfold partL frZ toZ
  rw [if_neg (by omega), if_neg (by omega)]
  rw [if_neg (by omega)]
  simp only [Int.toNat_zero, List.drop_zero]
  congr 1
  omega
theorem partL_back (L : List Sc) {k : Nat} (hk : k ≤ L.length) : partL L k L.length = L.drop k := by
  have e1 : frZ L.length k = k := by unfold frZ; rw [if_neg (by omega)]
  have e2 : toZ L.length L.length = (L.length : Int) - 1 := by unfold toZ; rw [if_neg (by omega)]; omega
  unfold partL
  rw [e1, e2]
  split
  · rw [List.drop_of_length_le (by omega)]
  · rw [Int.toNat_natCast]
    exact List.take_of_length_le (by rw [List.length_drop]; omega)
section
variable {S0 : LS} {H0 : AH} {sb mb mk : Nat} {ns : List Nd} {va vb vl : AV} {k : Nat}
theorem f3_end (hM : Mem H S) (hT : Tab S) (hl : Rd S (fun _ => True) vl (scs ns)) (ha : Rd S (fun _ => True) va ((scs ns).take k)) (hb : Rd S (fun _ => True) vb ((scs ns).drop k)) (hk : k ≤ (scs ns).length) (hlen : (scs ns).length ≤ 1000)
    (hK : ∀ H', K (.ret (.bool true)) H') : f3_q3 f3_rr K vl k va vb H := by
  unfold f3_q3
  rw [r3a, r3f]
  refine f7_i hM hT fun H1 S1 h1 x1 => ?_
  simp only [cR_ret, onB_b, bI_tt]
  have stay : ∀ {v : AV} {l : List Sc} {S' : LS}, Rd S (fun _ => True) v l → Ext S S' → Rd S' (fun _ => True) v l := fun hr hx => hr.keep hM fun b _ hb => ⟨hx.ob b hb, trivial⟩
  refine pNewE h1 (Ext.refl S1) fun H2 S2 v2 h2 x2 o2 _ => ?_
  refine pApp_out h2 x2 o2 (stay ha (x1.trans x2)) (by simp; omega) fun H3 S3 v3 h3 x3 o3 => ?_
  refine pApp_out h3 x3 o3 (stay hb (x1.trans x3)) (by simp; omega) fun H4 S4 v4 h4 x4 o4 => ?_
  rw [List.nil_append, List.take_append_drop] at o4
  have x14 := x1.trans x4
  refine f12_i h4 (o4.rd h4 (Q := fun _ => True) fun _ _ _ => trivial) (stay hl x14) (by omega) ?_
  simp only [cR_ret, onB_b, bI_tt]
  refine (stay ha x14).len ?_
  simp only [cI_z, iEq_d]
  rw [show decide ((((scs ns).take k).length : Int) = k) = true by simp; omega]
  exact hK H4
theorem f3_loop (hM : Mem H S) (hT : Tab S) (hl : Rd S (fun _ => True) vl (scs ns)) (ha : Rd S (fun _ => True) va ((scs ns).take k)) (hb : Rd S (fun _ => True) vb ((scs ns).drop k)) (hk : k ≤ (scs ns).length) (hlen : (scs ns).length ≤ 1000)
    {z : Int} {p : Nat} (hp : ∀ i y, (scs ns)[i]? = some y → (i < p ↔ y.s < z)) (hK : ∀ H', K (.ret (.bool true)) H') :
    ∀ (n j : Nat), j ≤ (scs ns).length → (scs ns).length - j < n → f3_l4 f3_rr K n z vl (scs ns).length k va vb p j H
  | 0, _, _, h => by omega
  | n + 1, j, hj, hn => by
    show f3_q4 f3_rr K (f3_l4 f3_rr K n) (f3_p3 f3_rr K) z vl (scs ns).length k va vb p j H
    unfold f3_q4
    simp only [iLt_d]
    refine bI_dec (fun h => ?_) (fun h => ?_)
    · obtain ⟨a, ha'⟩ : ∃ a, (scs ns)[j]? = some a := ⟨(scs ns)[j], List.getElem?_eq_getElem (by omega)⟩
      refine hl.at_ ha' fun b o hat _ => hat.sc hM ?_
      simp only [cI_z]
      have e : decide ((j : Int) < (p : Int)) = decide (a.s < z) := by
        have := hp j a ha'
        by_cases g : a.s < z
        · simp only [g, decide_true]; have := this.2 g; simp; omega
        · simp only [g, decide_false]; have := mt this.1 g; simp; omega
      rw [e]
      have bn : ∀ (b : Bool) (q : AV → Prop), q (.bool false) → pBNe (.bool b) (.bool b) q := fun b q h => by cases b <;> exact h
      refine bn _ _ ?_
      simp only [onB_b, bI_ff, iadd, io1]
      refine w0 (by omega) (by omega) ?_
      exact f3_loop hM hT hl ha hb hk hlen hp hK n (j + 1) (by omega) (by omega)
    · exact f3_end hM hT hl ha hb hk hlen hK
end
theorem f3_i {l : List Sc} {v : AV} {i z : Int} (hM : Mem H S) (hT : Tab S) (hR : Rd S (fun _ => True) v l) (hl : (l.length : Int) < 9223372036854775808) (hs : ∀ a ∈ l, a.nm.n ≤ maxLen) (hK : ∀ H', K (.ret (.bool true)) H') : f3 v i z H K := by
  show f3_q0 f3_rr K (f3_p1 f3_rr K) v i z H
  unfold f3_q0
  rw [r3a, r3b, r3c]
  refine hR.len ?_
  simp only [cI_z, iLt_d]
  refine bI_dec (fun h => ?_) (fun h => ?_)
  · refine f7_i hM hT fun H1 S1 h1 x1 => ?_
    simp only [cR_ret, onB_b]
    exact hK H1
  · have h60 : l.length ≤ 60 := by have : (Int.ofNat 60) = 60 := rfl; omega
    refine f8_i hM hT hR (by omega) hs fun H1 S1 sb mb ns mk h1 x1 hA1 hT1 hL1 hmk ho1 => ?_
    simp only [cR_ret, pPEq_pn, onB_b, Bool.not_true, bI_ff]
    have hlen : (scs ns).length ≤ 60 := by rw [hL1]; have := foldl_len l (L := []); simp at this; unfold ofL; omega
    refine f9_i h1 hA1 fun H2 S2 vl h2 x2 hl2 => ?_
    have hl2' := hl2.rd h2 (Q := fun _ => True) fun _ _ _ => trivial
    simp only [cR_ret]
    refine hl2'.len ?_
    simp only [cI_z, iadd, io1]
    refine w3 ?_
    refine w0 (by omega) (by omega) ?_
    refine w3 ?_
    have e1 : (((scs ns).length : Int) + 1) % 18446744073709551616 = ((scs ns).length + 1 : Nat) := by omega
    rw [e1, iEq_d, show decide ((((scs ns).length + 1 : Nat) : Int) = 0) = false by simp; omega]
    simp only [bI_ff]
    obtain ⟨u, hu⟩ := Int.eq_ofNat_of_zero_le (Int.emod_nonneg i (show (18446744073709551616 : Int) ≠ 0 by omega))
    rw [hu]
    refine forceI_i ?_
    have e2 : Int.tmod ((u : Nat) : Int) (((scs ns).length + 1 : Nat) : Int) = ((u % ((scs ns).length + 1) : Nat) : Int) := rfl
    rw [e2]
    have hku : u % ((scs ns).length + 1) ≤ (scs ns).length := by have := Nat.mod_lt u (show 0 < (scs ns).length + 1 by omega); omega
    generalize u % ((scs ns).length + 1) = k at hku
    refine w0 (by omega) (by omega) ?_
    have hA2 := hA1.ext h1 x2
    have hT2 := hT1.ext h1 x2
    have q2 : ∀ {H3 : AH} {S3 : LS} {va : AV}, Mem H3 S3 → Ext S2 S3 → Rd S3 (fun _ => True) va ((scs ns).take k) → f3_q2 f3_rr K (f3_l4 f3_rr K NL) z (.ptr sb 0) vl (scs ns).length k va H3 := fun {H3 S3 va} h3 x3 ha => by
      have hA3 := hA2.ext h2 x3
      unfold f3_q2
      rw [r3d, r3e]
      refine f10_i h3 hA3 (by unfold i64; omega) (by unfold i64; omega) fun H4 S4 vb h4 x4 ob => ?_
      rw [partL_back _ hku] at ob
      have hA4 := hA3.ext h3 x4
      simp only [cR_ret]
      refine f11_n h4 hA4 z fun H5 S5 p h5 x5 hp hc => ?_
      simp only [cR_ret, cI_z, iLt_d, io0]
      rw [show decide ((p : Int) < 0) = false from decide_eq_false (by omega), show decide (((scs ns).length : Int) < p) = false from decide_eq_false (by omega)]
      simp only [bI_ff]
      have x25 := (x3.trans x4).trans x5
      have stay : ∀ {v : AV} {l : List Sc} {A B : LS} {HA : AH}, Mem HA A → Rd A (fun _ => True) v l → Ext A B → Rd B (fun _ => True) v l := fun hm hr hx => hr.keep hm fun b _ hb => ⟨hx.ob b hb, trivial⟩
      exact f3_loop h5 (hT2.ext h2 x25) (stay h2 hl2' x25) (stay h3 ha (x4.trans x5)) (stay h4 (ob.rd h4 fun _ _ _ => trivial) x5) hku (by omega) hc hK NL 0 (by omega) (by have : NL = 1000000 := rfl; omega)
    show f3_q1 f3_rr K (f3_p2 f3_rr K) z (.ptr sb 0) vl (scs ns).length k H2
    unfold f3_q1
    rw [r3d]
    simp only [iLt_d, isub, io1]
    refine bI_dec (fun h => ?_) (fun h => ?_)
    · have hk0 : 0 < k := by have : (Int.ofNat 0) = 0 := rfl; omega
      refine w0 (by omega) (by omega) ?_
      generalize hz0 : Int.ofNat 0 = z0
      refine f10_i h2 hA2 (by rw [← hz0]; decide) (by unfold i64; omega) fun H3 S3 va h3 x3 oa => ?_
      rw [show partL (scs ns) z0 ((k : Int) - 1) = (scs ns).take k by rw [← hz0]; exact partL_front _ hk0 hku] at oa
      simp only [cR_ret]
      exact q2 h3 x3 (oa.rd h3 fun _ _ _ => trivial)
    · have hk0 : k = 0 := by have : (Int.ofNat 0) = 0 := rfl; omega
      subst hk0
      exact q2 h2 (Ext.refl S2) (.inl ⟨rfl, by simp⟩)
end Go.Proofs.YtpfnalokeeidkaaDoor
