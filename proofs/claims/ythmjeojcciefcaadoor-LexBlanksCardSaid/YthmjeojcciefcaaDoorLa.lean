/- Words and names. No condition: lemmas. -/
import Derived.Test.YthmjeojcciefcaaDoorGc
import Derived.Test.YthmjeojcciefcaaDoorM
set_option linter.unusedVariables false
set_option linter.unusedSimpArgs false
namespace Go.X
def chkCl (c : Bt AV) : Nat → List AV → Prop
  | _, [] => True
  | i, a :: l => c.getK i fun v => bT (sameAV v a) (chkCl c (Nat.succ i) l)
def chkRow (z : List AV) (o : COut) (H : AH) : Prop :=
  match o with
  | .ret (.slice b o' n m sz ex) => bT (Nat.beq o' 0) (bT (Nat.beq n z.length) (bT (Nat.beq m z.length) (bT (Nat.beq sz 1) (bT ex (H.t.getK b fun ob => match ob with | .cells c q md => bT (Nat.beq q z.length) (bT (Nat.beq md 0) (chkCl c 0 z)) | _ => False)))))
  | _ => False
theorem chkCl_out {c : Bt AV} (hs : ∀ a b, sameAV a b = true → (∃ n x, b = .str n x) → a = b) : ∀ {l : List AV} {i : Nat}, (∀ a ∈ l, ∃ n x, a = .str n x) → chkCl c i l → ∀ j, j < l.length → c.get? (i + j) = l[j]?
  | [], i, _, _, j, hj => by simp at hj
  | a :: l, i, hl, h, j, hj => by
    obtain ⟨v, h1, h2⟩ := Bt.getK_out _ _ _ h
    obtain ⟨h3, h4⟩ := bT_out h2
    cases j with
    | zero => rw [Nat.add_zero, h1]; exact congrArg some (hs v a h3 (hl a (by simp)))
    | succ j =>
      have := chkCl_out hs (fun x hx => hl x (by simp [hx])) h4 j (by simpa using hj)
      rw [show i + (j + 1) = Nat.succ i + j by omega]
      simpa using this
theorem same_strL {a b : AV} (h : sameAV a b = true) (hb : ∃ n x, b = .str n x) : a = b := by
  obtain ⟨n, x, rfl⟩ := hb
  cases a <;> simp only [sameAV, Bool.and_eq_true] at h <;> try cases h
  rename_i h1 h2
  rw [Nat.eq_of_beq_eq_true h1, Nat.eq_of_beq_eq_true h2]
theorem chkRow_out {z : List AV} {o : COut} {H : AH} (hz : ∀ a ∈ z, ∃ n x, a = .str n x) (h : chkRow z o H) : ∃ b c, o = .ret (.slice b 0 z.length z.length 1 true) ∧ H.at b = .cells c z.length 0 ∧ ∀ i : Nat, i < z.length → c.get? i = z[i]? := by
  unfold chkRow at h
  split at h
  · rename_i b o' n m sz ex
    obtain ⟨h1, h⟩ := bT_out h
    obtain ⟨h2, h⟩ := bT_out h
    obtain ⟨h3, h⟩ := bT_out h
    obtain ⟨h4, h⟩ := bT_out h
    obtain ⟨h5, h⟩ := bT_out h
    obtain ⟨ob, g1, h⟩ := Bt.getK_out _ _ _ h
    cases ob with
    | cells c q md =>
      obtain ⟨h6, hq⟩ := bT_out h
      obtain ⟨h7, hC⟩ := bT_out hq
      have e1 := Nat.eq_of_beq_eq_true h1
      have e2 := Nat.eq_of_beq_eq_true h2
      have e3 := Nat.eq_of_beq_eq_true h3
      have e4 := Nat.eq_of_beq_eq_true h4
      have e6 := Nat.eq_of_beq_eq_true h6
      have e7 := Nat.eq_of_beq_eq_true h7
      subst e1; subst e2; subst e3; subst e4; subst h5
      refine ⟨b, c, rfl, ?_, fun i hi => ?_⟩
      · unfold AH.at
        rw [g1, e6, e7]
        try rfl
      · have := chkCl_out (fun _ _ => same_strL) hz hC i hi
        rw [Nat.zero_add] at this; exact this
    | map => exact h.elim
    | iter => exact h.elim
    | dead => exact h.elim
  · exact h.elim
end Go.X
namespace Go.Proofs.YthmjeojcciefcaaDoor
open Go Go.X Go.Proofs.YthmjeojcciefcaaDoor.G
set_option maxRecDepth 100000
set_option maxHeartbeats 1600000
set_option linter.unusedVariables false
set_option linter.unusedSimpArgs false
def spc : List Int := (List.range 256).map fun i => if Nat.beq i 32 || (Nat.ble 9 i && Nat.ble i 13) then 1 else 0
def tb0 : List AV := spc.map fun z => AV.int 1 z
def gl : List (Option (List AV)) := [some tb0, none, none, none, none, none, none, none, none]
def wds : List AV := [(.str 3 6581857), (.str 5 461195539042), (.str 2 28516), (.str 4 1702063205), (.str 6 112602859662437), (.str 3 6581861), (.str 5 435728179558), (.str 3 7499622), (.str 8 7957695015192261990), (.str 2 26217), (.str 2 28265), (.str 5 465490374508), (.str 3 7104878), (.str 3 7630702), (.str 2 29295), (.str 6 127961662514546), (.str 6 121437875889522), (.str 4 1852139636), (.str 4 1702195828), (.str 5 465625706101), (.str 5 435610544247)]
def wdT : AV := .str 106 743592293415549159464884965273623582657807955486870022263567599881100855398344308852071505921708641523013298851144444062831057050381886688874167040862228978947257244481257785676058839983701114737916356931020761369637418783173010486990440839896469216718433
theorem fields_run : mkG gl ⟨.e, 0⟩ (fun H0 => fnX [.a] f31 [wdT] H0 (chkRow wds)) = True := by kernel_rfl
end Go.Proofs.YthmjeojcciefcaaDoor

namespace Go.X
theorem of_run {p : Prop} (h : p = True) : p := by rw [h]; trivial
theorem FunOk.weaken {P : Program} {g : Nat} {F F' : FnA} (h : FunOk P g F) (hw : ∀ l H K, F' l H K → F l H K) : FunOk P g F' := fun hb l H K hf => h hb l H K (hw l H K hf)
end Go.X
namespace Go.Proofs.YthmjeojcciefcaaDoor
open Go Go.X Go.Proofs.YthmjeojcciefcaaDoor.G
set_option maxRecDepth 100000
set_option maxHeartbeats 1600000
set_option linter.unusedVariables false
set_option linter.unusedSimpArgs false
variable {H : AH} {S : LS} {K : KF}
theorem wds_str : ∀ a ∈ wds, ∃ n x, a = .str n x := by
  intro a ha
  simp only [wds, List.mem_cons, List.not_mem_nil, or_false] at ha
  rcases ha with rfl | rfl | rfl | rfl | rfl | rfl | rfl | rfl | rfl | rfl | rfl | rfl | rfl | rfl | rfl | rfl | rfl | rfl | rfl | rfl | rfl <;> exact ⟨_, _, rfl⟩
theorem gl_plain : ∀ z, some z ∈ gl → ∀ a ∈ z, plA a = true := by
  intro z hz a ha
  simp only [gl, List.mem_cons, Option.some.injEq, reduceCtorEq, List.not_mem_nil, or_false] at hz
  subst hz
  obtain ⟨x, _, rfl⟩ := List.mem_map.1 ha
  rfl
noncomputable def fldK : AV → AH → KF → Prop := fun a H K => a = wdT ∧ ∃ S, Mem H S ∧ TabS gl S ∧ ∀ H', Mem H' (S.push (.cells wds 0)) → K (.ret (.slice S.n 0 wds.length wds.length 1 true)) H'
theorem fldK_ok : FunOk Tryd.prog 31 (fnX [.a] fldK) := by
  have h := FunOk.frame_row (gl := gl) (by kernel_rfl) gl_plain f31_ok (args := [wdT]) (fun a ha => by simp only [List.mem_singleton] at ha; subst ha; rfl) (z := wds) (fun a ha => by obtain ⟨n, x, rfl⟩ := wds_str a ha; rfl)
    (fun o H' hk => chkRow_out wds_str hk) (mkG_first (of_run fields_run))
  refine h.weaken fun l H K hf => ?_
  cases l with
  | nil => exact hf.elim
  | cons a l => cases l with
    | nil =>
      have hf' : fldK a H K := hf
      obtain ⟨rfl, hS⟩ := hf'
      exact ⟨rfl, hS⟩
    | cons b l => exact hf.elim
end Go.Proofs.YthmjeojcciefcaaDoor

namespace Go.Proofs.YthmjeojcciefcaaDoor
open Go Go.X Go.Proofs.YthmjeojcciefcaaDoor.G
set_option maxRecDepth 100000
set_option maxHeartbeats 1600000
set_option linter.unusedVariables false
set_option linter.unusedSimpArgs false
variable {H : AH} {S : LS} {K : KF}
theorem dig_i {c : Nat} {k : Bool → Prop} (h : ∀ b, (b = true ↔ DP c) → k b) : bI (!(iLt (c : Int) (.ofNat 48))) (k (!(iLt (.ofNat 57) (c : Int)))) (k false) := by
  have e1 : Int.ofNat 48 = 48 := rfl
  have e2 : Int.ofNat 57 = 57 := rfl
  rw [iLt_d, iLt_d, e1, e2]
  by_cases g : (c : Int) < 48
  · rw [decide_eq_true g]
    simp only [Bool.not_true, bI_ff]
    exact h _ ⟨fun x => (by cases x), fun x => by unfold DP at x; omega⟩
  · rw [decide_eq_false g]
    simp only [Bool.not_false, bI_tt]
    refine h _ ?_
    unfold DP
    simp only [Bool.not_eq_true', decide_eq_false_iff_not]
    omega
theorem f19_i {c : Nat} (h : ∀ b, (b = true ↔ DP c) → K (.ret (.bool b)) H) : f19 (c : Int) H K := by
  show f19_q0 f19_rr K (c : Int) H
  unfold f19_q0
  exact dig_i (k := fun b => K (.ret (.bool b)) H) h
theorem f26_i {c : Nat} (h : ∀ b, (b = true ↔ DP c) → K (.ret (.bool b)) H) : f26 (c : Int) H K := by
  show f26_q0 f26_rr K (c : Int) H
  unfold f26_q0
  exact dig_i (k := fun b => K (.ret (.bool b)) H) h
/-- How both look at letters. -/
theorem let_i {c : Nat} {x y : Prop} (h1 : 97 ≤ c ∧ c ≤ 122 ∨ 65 ≤ c ∧ c ≤ 90 → x) (h2 : ¬ (97 ≤ c ∧ c ≤ 122 ∨ 65 ≤ c ∧ c ≤ 90) → y) :
    bI (!(iLt (c : Int) (.ofNat 97))) (bI (!(iLt (.ofNat 122) (c : Int))) x (bI (!(iLt (c : Int) (.ofNat 65))) (bI (!(iLt (.ofNat 90) (c : Int))) x y) y)) (bI (!(iLt (c : Int) (.ofNat 65))) (bI (!(iLt (.ofNat 90) (c : Int))) x y) y) := by
  have e1 : Int.ofNat 97 = 97 := rfl
  have e2 : Int.ofNat 122 = 122 := rfl
  have e3 : Int.ofNat 65 = 65 := rfl
  have e4 : Int.ofNat 90 = 90 := rfl
  simp only [iLt_d]
  rw [e1, e2, e3, e4]
  have low : (97 ≤ c → 122 < c) → bI (!(decide ((c : Int) < 65))) (bI (!(decide (90 < (c : Int)))) x y) y := fun hl => by
    by_cases g3 : (c : Int) < 65
    · rw [decide_eq_true g3]
      exact h2 (by omega)
    · rw [decide_eq_false g3]
      simp only [Bool.not_false, bI_tt]
      by_cases g4 : 90 < (c : Int)
      · rw [decide_eq_true g4]
        exact h2 (by omega)
      · rw [decide_eq_false g4]
        exact h1 (by omega)
  by_cases g1 : (c : Int) < 97
  · rw [decide_eq_true g1]
    exact low (by omega)
  · rw [decide_eq_false g1]
    simp only [Bool.not_false, bI_tt]
    by_cases g2 : 122 < (c : Int)
    · rw [decide_eq_true g2]
      exact low (by omega)
    · rw [decide_eq_false g2]
      exact h1 (by omega)
theorem f25_i {c : Nat} (h : ∀ b, (b = true ↔ LP c) → K (.ret (.bool b)) H) : f25 (c : Int) H K := by
  show f25_q0 f25_rr K (c : Int) H
  unfold f25_q0
  refine let_i (fun g => h _ ⟨fun _ => by unfold LP; omega, fun _ => rfl⟩) fun g => h _ ?_
  have e : Int.ofNat 95 = 95 := rfl
  rw [iEq_d, e]
  unfold LP
  simp only [decide_eq_true_eq]
  omega
theorem f18_i {c : Nat} (h : ∀ b, (b = true ↔ LP c ∨ DP c) → K (.ret (.bool b)) H) : f18 (c : Int) H K := by
  have r18 : f18_rr = f19 := rfl
  show f18_q0 f18_rr K (c : Int) H
  unfold f18_q0
  rw [r18]
  refine let_i (fun g => h _ ⟨fun _ => by unfold LP; omega, fun _ => rfl⟩) fun g => ?_
  have e : Int.ofNat 95 = 95 := rfl
  rw [iEq_d, e]
  refine bI_dec (fun g2 => h _ ⟨fun _ => by unfold LP; omega, fun _ => rfl⟩) fun g2 => f19_i fun b hb => ?_
  simp only [cR_ret, onB_b]
  refine h b ?_
  rw [hb]
  unfold LP
  constructor
  · exact fun q => .inr q
  · rintro (q | q)
    · omega
    · exact q
def eqS (a b : AV) : Bool := match a, b with | .str n x, .str m y => Nat.beq n m && Nat.beq x y | _, _ => false
theorem eqS_comm (a b : AV) : eqS a b = eqS b a := by
  cases a <;> cases b <;> try rfl
  rename_i n x m y
  show (Nat.beq n m && Nat.beq x y) = (Nat.beq m n && Nat.beq y x)
  have c : ∀ a b : Nat, Nat.beq a b = Nat.beq b a := fun a b => by
    rw [Bool.eq_iff_iff, Nat.beq_eq, Nat.beq_eq]; exact eq_comm
  rw [c n m, c x y]
def hasW (l : List AV) (s : AV) : Bool := l.any (eqS s)
theorem sEq_e {n x : Nat} {a : AV} (h : ∃ m y, a = .str m y) {k : AV → Prop} (hk : k (.bool (eqS (.str n x) a))) : sEq (.str n x) a k := by
  obtain ⟨m, y, rfl⟩ := h
  exact hk
theorem sEq_e' {n x : Nat} {a : AV} (h : ∃ m y, a = .str m y) {k : AV → Prop} (hk : k (.bool (eqS (.str n x) a))) : sEq a (.str n x) k := by
  obtain ⟨m, y, rfl⟩ := h
  rw [eqS_comm] at hk
  exact hk
theorem hasW_drop {l : List AV} {i : Nat} {a s : AV} (h : l[i]? = some a) : hasW (l.drop i) s = (eqS s a || hasW (l.drop (i + 1)) s) := by
  have hi := (List.getElem?_eq_some_iff.1 h).1
  rw [List.drop_eq_getElem_cons hi]
  have : l[i] = a := (List.getElem?_eq_some_iff.1 h).2
  rw [this]; rfl
section
variable {Q : Nat → Prop} {v : AV} {l : List AV} {n x : Nat}
theorem f39_loop (hM : Mem H S) (hr : RdV S Q v l) (hl : l.length ≤ 1000) (hs : ∀ a ∈ l, ∃ m y, a = .str m y) (h1 : hasW l (.str n x) = true → ∀ z : Nat, K (.ret (.int 0 z)) H) (h2 : hasW l (.str n x) = false → K (.ret (.int 0 (.negSucc 0))) H) :
    ∀ (q i : Nat), i ≤ l.length → l.length - i < q → hasW (l.drop i) (.str n x) = hasW l (.str n x) → f39_l2 f39_rr K q v (.str n x) l.length i H
  | 0, _, _, h, _ => by omega
  | q + 1, i, hi, hn, hd => by
    show f39_q2 f39_rr K (f39_l2 f39_rr K q) (f39_q1 f39_rr K) v (.str n x) l.length i H
    unfold f39_q2
    rw [iLt_d]
    refine bI_dec (fun g => ?_) (fun g => ?_)
    · obtain ⟨a, ha⟩ : ∃ a, l[i]? = some a := ⟨l[i], List.getElem?_eq_getElem (by omega)⟩
      refine hr.load hM ha (sEq_e (hs a (List.mem_of_getElem? ha)) ?_)
      simp only [onB_b]
      rw [hasW_drop ha] at hd
      cases e : eqS (.str n x) a with
      | true =>
        rw [e] at hd
        simp only [bI_tt]
        exact h1 hd.symm i
      | false =>
        rw [e, Bool.false_or] at hd
        simp only [bI_ff, iadd, io1]
        refine w0 (by omega) (by omega) ?_
        exact f39_loop hM hr hl hs h1 h2 q (i + 1) (by omega) (by omega) hd
    · have e : l.drop i = [] := List.drop_of_length_le (by omega)
      rw [e] at hd
      exact h2 hd.symm
theorem f32_loop (hM : Mem H S) (hr : RdV S Q v l) (hl : l.length ≤ 1000) (hs : ∀ a ∈ l, ∃ m y, a = .str m y) (h1 : K (.ret (.bool (hasW l (.str n x)))) H) :
    ∀ (q i : Nat), i ≤ l.length → l.length - i < q → hasW (l.drop i) (.str n x) = hasW l (.str n x) → f32_l2 f32_rr K q v (.str n x) i H
  | 0, _, _, h, _ => by omega
  | q + 1, i, hi, hn, hd => by
    show f32_q2 f32_rr K (f32_l2 f32_rr K q) (f32_q1 f32_rr K) v (.str n x) i H
    unfold f32_q2
    refine hr.len ?_
    simp only [cI_z, iLt_d]
    refine bI_dec (fun g => ?_) (fun g => ?_)
    · obtain ⟨a, ha⟩ : ∃ a, l[i]? = some a := ⟨l[i], List.getElem?_eq_getElem (by omega)⟩
      refine hr.load hM ha (sEq_e' (hs a (List.mem_of_getElem? ha)) ?_)
      simp only [onB_b]
      rw [hasW_drop ha] at hd
      cases e : eqS (.str n x) a with
      | true =>
        rw [e, Bool.true_or] at hd
        simp only [bI_tt]
        rw [← hd] at h1
        exact h1
      | false =>
        rw [e, Bool.false_or] at hd
        simp only [bI_ff, iadd, io1]
        refine w0 (by omega) (by omega) ?_
        exact f32_loop hM hr hl hs h1 q (i + 1) (by omega) (by omega) hd
    · have e : l.drop i = [] := List.drop_of_length_le (by omega)
      rw [e] at hd
      have hd' : hasW l (.str n x) = false := hd.symm
      rw [hd'] at h1
      exact h1
theorem f39_i (hM : Mem H S) (hr : RdV S Q v l) (hl : l.length ≤ 1000) (hs : ∀ a ∈ l, ∃ m y, a = .str m y) (h1 : hasW l (.str n x) = true → ∀ z : Nat, K (.ret (.int 0 z)) H) (h2 : hasW l (.str n x) = false → K (.ret (.int 0 (.negSucc 0))) H) : f39 v (.str n x) H K := by
  show f39_q0 f39_rr K (f39_l2 f39_rr K G.NL) v (.str n x) H
  unfold f39_q0
  refine hr.len ?_
  simp only [cI_z]
  exact f39_loop hM hr hl hs h1 h2 G.NL 0 (by omega) (by have : G.NL = 1000000 := rfl; omega) rfl
theorem f32_i (hM : Mem H S) (hr : RdV S Q v l) (hl : l.length ≤ 1000) (hs : ∀ a ∈ l, ∃ m y, a = .str m y) (h1 : K (.ret (.bool (hasW l (.str n x)))) H) : f32 v (.str n x) H K := by
  show f32_q0 f32_rr K (f32_l2 f32_rr K G.NL) v (.str n x) H
  unfold f32_q0
  exact f32_loop hM hr hl hs h1 G.NL 0 (by omega) (by have : G.NL = 1000000 := rfl; omega) rfl
theorem f30_i (hM : Mem H S) (hr : RdV S Q v l) (hl : l.length ≤ 1000) (hs : ∀ a ∈ l, ∃ m y, a = .str m y) (h1 : K (.ret (.bool (hasW l (.str n x)))) H) : f30 v (.str n x) H K := by
  have r30 : f30_rr = f39 := rfl
  show f30_q0 f30_rr K v (.str n x) H
  unfold f30_q0
  rw [r30]
  have e0 : Int.ofNat 0 = ((0 : Nat) : Int) := rfl
  refine f39_i hM hr hl hs (fun g z => ?_) (fun g => ?_)
  · simp only [cR_ret, cI_z]
    rw [iLt_d, decide_eq_false (show ¬ ((z : Int) < Int.ofNat 0) by omega)]
    rw [g] at h1
    exact h1
  · simp only [cR_ret, cI_z]
    rw [iLt_d, decide_eq_true (show (Int.negSucc 0 < Int.ofNat 0) by decide)]
    rw [g] at h1
    exact h1
end
noncomputable def R12 : f12_R := (f30, fldK)
noncomputable def g12 : AV → AH → KF → Prop := f12_r R12
theorem g12_ok : FunOk Tryd.prog 12 (fnX [.a] g12) := f12_rok R12 (CTblOk.cons f30_ok (CTblOk.cons fldK_ok CTblOk.nil))
theorem g12_i {n x : Nat} (hM : Mem H S) (hT : TabS gl S) (hK : ∀ H' S', Mem H' S' → Ext S S' → K (.ret (.bool (hasW wds (.str n x)))) H') : g12 (.str n x) H K := by
  have r12a : R12.1 = f30 := rfl
  have r12b : R12.2 = fldK := rfl
  show f12_q0 R12 K (.str n x) H
  unfold f12_q0
  rw [r12a, r12b]
  refine ⟨rfl, S, hM, hT, fun H1 h1 => ?_⟩
  simp only [cR_ret]
  refine f30_i h1 (Q := fun _ => True) (l := wds) (.inr ⟨S.n, 0, wds.length, true, wds, 0, rfl, Nat.le_refl _, trivial, LS.push_ob_self _ _, by simp, by simp⟩) (by decide) wds_str ?_
  simp only [cR_ret, onB_b]
  exact hK H1 _ h1 (Ext.push _ _)
theorem f13_i {n x : Nat} (hM : Mem H S) (hK : ∀ H' S', Mem H' S' → Ext S S' → K (.ret (.bool (hasW wds (.str n x)))) H') : f13 (.str n x) H K := by
  have r13 : f13_rr = f32 := rfl
  show f13_q0 f13_rr K (.str n x) H
  unfold f13_q0
  rw [r13]
  refine pNewS_i hM rfl (fun a ha => by obtain ⟨m, y, rfl⟩ := wds_str a ha; rfl) fun H1 h1 => ?_
  refine f32_i (l := wds) (v := .slice S.n 0 21 21 1 true) h1 (Q := fun _ => True) (.inr ⟨S.n, 0, 21, true, wds, 0, rfl, Nat.le_refl _, trivial, LS.push_ob_self _ _, by decide, rfl⟩) (by decide) wds_str ?_
  simp only [cR_ret, onB_b]
  exact hK H1 _ h1 (Ext.push _ _)
end Go.Proofs.YthmjeojcciefcaaDoor

namespace Go.Proofs.YthmjeojcciefcaaDoor
open Go Go.X Go.Proofs.YthmjeojcciefcaaDoor.G
noncomputable def toldT : AH → KF → Prop := fun H K => (∃ S, Mem H S ∧ TabS gl S) ∧ K (.ret (.bool true)) H
end Go.Proofs.YthmjeojcciefcaaDoor

namespace Go.Proofs.YthmjeojcciefcaaDoor
open Go Go.X
set_option maxRecDepth 100000
set_option maxHeartbeats 0
theorem hmx : Tryd.prog.follows .mixedOrders = true := by kernel_rfl
theorem hGm : M.gl.length = Tryd.prog.globals.size := by kernel_rfl
theorem hgm : glOk 5 M.gl = true := by kernel_rfl
theorem hb8 : hasBody Tryd.prog 8 = true := by kernel_rfl
theorem hC0 : CallFOk Tryd.prog M.C00 := callF_ok hmx (fun _ _ h => by cases h) 1000
theorem told_of {C : CallF 5} {g : Nat} (hC : CallFOk Tryd.prog C) (hb : hasBody Tryd.prog g = true) (h : runs C g (hs0 5 M.gl) [[]] = True) : CallsT Tryd.prog M.gl g [] :=
  runs_ok hGm hgm hC hb (l := [[]]) (fun a ha => by simp only [List.mem_singleton] at ha; subst ha; exact Nat.zero_le _) (of_run h) [] (List.mem_singleton.2 rfl)
theorem told_calls : CallsT Tryd.prog M.gl 8 [] := told_of hC0 hb8 M.ek
theorem spc_eq : spc = Lib.asciiSpaceTab := by kernel_rfl
theorem gl_eq : gl = M.gl := by
  show ([some tb0, none, none, none, none, none, none, none, none] : List (Option (List AV))) = [some M.spaces, none, none, none, none, none, none, none, none]
  have e : tb0 = M.spaces := by
    show spc.map (fun z => AV.int 1 z) = Lib.asciiSpaceTab.map fun z => AV.int 1 z
    rw [spc_eq]
  rw [e]
theorem tabsAt_of {gl : List (Option (List AV))} {W : World} (h : TabsIn gl W) : TabsAt gl W := fun b z hz => by
  have hz' : gl[b]? = some (some z) := by
    unfold glO at hz
    cases e : gl[b]? with
    | none => rw [e] at hz; cases hz
    | some y => rw [e] at hz; exact congrArg some hz
  obtain ⟨cur, ty, lo, hi, h1, h2, h3⟩ := h b z hz'
  refine ⟨cur, ty, lo, hi, h1, by have : 0 + z.length ≤ cur.size := h2; omega, fun i a ha => ?_⟩
  obtain ⟨p, v, g1, g2⟩ := h3 i a ha
  have g1' : cur[0 + i]? = some v := g1
  rw [Nat.zero_add] at g1'
  exact ⟨v, g1', plA_up p g2⟩
theorem told_ok : FunOk Tryd.prog 8 (fnX [] toldT) := by
  have h := FunOk.of_true (P := Tryd.prog) (g := 8) (gl := gl) (by kernel_rfl) gl_plain fun W ht => told_calls W (by rw [← gl_eq]; exact tabsAt_of ht) #[] .nil
  exact h
end Go.Proofs.YthmjeojcciefcaaDoor
