/- Tables of ints, and the law CellBorders over the functions as they are printed. No condition: lemmas. -/
import Derived.Test.YtlbojjiijfakaaaGa
set_option linter.unusedVariables false
set_option linter.unusedSimpArgs false
namespace Go.Proofs.Ytlbojjiijfakaaa
open Go Go.X Go.Proofs.Ytlbojjiijfakaaa.G
set_option maxRecDepth 100000
set_option maxHeartbeats 400000
set_option linter.unusedVariables false
set_option linter.unusedSimpArgs false

def kc (n : Int) : List AV := [.int 0 2, .int 0 n, .str 0 0]
def KI (n : Int) : AV := .agg (kc n)
theorem KI_same (a b : Int) : sameAV (KI a) (KI b) = decide (a = b) := by simp [KI, kc, sameAV, sameAL]
theorem KI_inj {a b : Int} (h : KI a = KI b) : a = b := by simpa [KI, kc] using h
theorem kc_inj {a b : Int} (h : kc a = kc b) : a = b := by simpa [kc] using h
theorem keyA_KI {n : Int} (h1 : -9223372036854775808 ≤ n) (h2 : n < 9223372036854775808) : keyA Try.prog 29 (KI n) = true := by
  have : keyA Try.prog 29 (KI n) = (true && (true && (Lit.int .i64 2).wf) && ((true && (Lit.int .i64 n).wf) && (true && true))) := by kernel_rfl
  rw [this]
  have e : (Lit.int .i64 n).wf = true := by
    simp only [Lit.wf, Bool.and_eq_true, decide_eq_true_eq]
    exact ⟨(show IntKind.i64.min = -9223372036854775808 by decide) ▸ h1, (show IntKind.i64.max = 9223372036854775807 by decide) ▸ (by omega)⟩
  have e2 : (Lit.int .i64 2).wf = true := by decide
  simp [e, e2]

def Has (es : List AEnt) (n : Int) : Prop := ∃ e ∈ es, e.key = KI n
structure Tab (S : LS) (tb mb : Nat) (es : List AEnt) (bd : Int) (ol : List AV) : Prop where
  ht : ∃ ord, S.ob tb = .cells [.map mb, ord, .int 0 bd] 0 ∧ ((ord = .nslice ∧ ol = []) ∨ ∃ b, ord = .slice b 0 ol.length ol.length 1 false ∧ S.ob b = .cells ol 0 ∧ ol ≠ [])
  hm : ∃ cl, S.ob mb = .map es cl
  he : ∀ (i : Nat) (e : AEnt), es[i]? = some e → ∃ n sb p kb v, e.key = KI n ∧ 1 ≤ n ∧ n ≤ 1000 ∧ e.val = .ptr sb 0 ∧ S.ob sb = .cells [.int 0 (.ofNat p), v] 0 ∧ ol[p]? = some (.ptr kb 0) ∧ S.ob kb = .cells (kc n) 0
  hu : ∀ (i j : Nat) (e e' : AEnt), es[i]? = some e → es[j]? = some e' → (e.key = e'.key ∨ e.val = e'.val) → i = j
  hol : ∀ (p : Nat) (a : AV), ol[p]? = some a → a = .nptr ∨ ∃ (kb : Nat) (n : Int) (sb : Nat) (v : AV) (i : Nat) (e : AEnt), a = .ptr kb 0 ∧ S.ob kb = .cells (kc n) 0 ∧ es[i]? = some e ∧ e.key = KI n ∧ e.val = .ptr sb 0 ∧ S.ob sb = .cells [.int 0 (.ofNat p), v] 0
def Bools (l : List AV) : Prop := l ≠ [] ∧ ∀ a ∈ l, ∃ z, a = .bool z
/-- Blocks of truth values are left alone. -/
def Kept (S S' : LS) : Prop := ∀ b l, S.ob b = .cells l 0 → Bools l → S'.ob b = .cells l 0
theorem Kept.refl (S : LS) : Kept S S := fun _ _ h _ => h
theorem Kept.trans {A B C : LS} (h : Kept A B) (g : Kept B C) : Kept A C := fun b l e k => g b l (h b l e k) k
theorem Kept.set {S : LS} {b : Nat} {o o' : LObj} (hb : S.ob b = o) (ho : ∀ l, o = .cells l 0 → ¬ Bools l) : Kept S (S.set b o') := fun x l hx hl => by
  rw [LS.set_ob_ne, hx]
  rintro rfl
  exact ho l (hb.symm.trans hx) hl
theorem Kept.push {H : AH} {S : LS} (h : Mem H S) (o : LObj) : Kept S (S.push o) := fun x l hx hl => by
  rw [LS.push_ob_lt, hx]
  exact h.lt (by rw [hx]; simp)
def BdOk (es : List AEnt) (bd : Int) : Prop := 0 ≤ bd ∧ (∀ j, 1 ≤ j → j ≤ bd → Has es j) ∧ ¬ Has es (bd + 1)

section
variable {S : LS} {tb mb : Nat} {es : List AEnt} {bd : Int} {ol : List AV}
theorem Tab.keys (h : Tab S tb mb es bd ol) : ∀ e ∈ es, keyA Try.prog 29 e.key = true := fun e he => by
  obtain ⟨i, hi⟩ := List.getElem?_of_mem he
  obtain ⟨n, _, _, _, _, h1, h2, h3, _⟩ := h.he i e hi
  rw [h1]; exact keyA_KI (by omega) (by omega)
theorem Tab.find_none (h : Tab S tb mb es bd ol) {n : Int} (h1 : -1000 ≤ n) (h2 : n ≤ 100000) (hn : ¬ Has es n) : findA Try.prog 29 (KI n) es = some none :=
  findA_none (keyA_KI (by omega) (by omega)) h.keys fun e he => by
    obtain ⟨i, hi⟩ := List.getElem?_of_mem he
    obtain ⟨m, _, _, _, _, g1, _⟩ := h.he i e hi
    rw [g1, KI_same]
    refine decide_eq_false fun e' => hn ⟨e, he, ?_⟩
    rw [g1, e']
theorem Tab.find_some (h : Tab S tb mb es bd ol) {n : Int} (h1 : -1000 ≤ n) (h2 : n ≤ 100000) {i : Nat} {e : AEnt} (hi : es[i]? = some e) (hk : e.key = KI n) : findA Try.prog 29 (KI n) es = some (some i) :=
  findA_some (keyA_KI (by omega) (by omega)) h.keys hi (by rw [hk, KI_same]; simp) fun i' e' hne he' => by
    obtain ⟨m, _, _, _, _, g1, _⟩ := h.he i' e' he'
    rw [g1, KI_same]
    refine decide_eq_false fun e2 => hne (h.hu i' i e' e he' hi (.inl ?_))
    rw [g1, hk, e2]
theorem Tab.cells_ne (h : Tab S tb mb es bd ol) {x : Nat} {l : List AV} (hx : S.ob x = .cells l 0) (hl : ∀ ord, l ≠ [.map mb, ord, .int 0 bd]) : x ≠ tb := by
  rintro rfl
  obtain ⟨ord, ht, _⟩ := h.ht
  rw [hx] at ht
  simp only [LObj.cells.injEq, and_true] at ht
  exact hl ord ht
/-- Where what a table has stays, it stays a table. -/
theorem Tab.stay (h : Tab S tb mb es bd ol) {S' : LS} (hs : ∀ x, S.ob x ≠ .dead → S'.ob x = S.ob x) : Tab S' tb mb es bd ol := by
  have hs' : ∀ {x l m}, S.ob x = .cells l m → S'.ob x = .cells l m := fun {x l m} e => by rw [hs x (by rw [e]; simp), e]
  refine ⟨?_, ?_, fun i e hi => ?_, h.hu, fun p a hp => ?_⟩
  · obtain ⟨ord, ht, ho⟩ := h.ht
    exact ⟨ord, hs' ht, ho.imp id fun ⟨b, h1, h2, h3⟩ => ⟨b, h1, hs' h2, h3⟩⟩
  · obtain ⟨cl, hm⟩ := h.hm
    exact ⟨cl, by rw [hs mb (by rw [hm]; simp), hm]⟩
  · obtain ⟨n, sb, p, kb, v, h1, h2, h3, h4, h5, h6, h7⟩ := h.he i e hi
    exact ⟨n, sb, p, kb, v, h1, h2, h3, h4, hs' h5, h6, hs' h7⟩
  · rcases h.hol p a hp with h1 | ⟨kb, n, sb, v, i, e, h1, h2, h3, h4, h5, h6⟩
    · exact .inl h1
    · exact .inr ⟨kb, n, sb, v, i, e, h1, hs' h2, h3, h4, h5, hs' h6⟩
theorem Tab.push {H : AH} (h : Tab S tb mb es bd ol) (hM : Mem H S) {o : LObj} : Tab (S.push o) tb mb es bd ol := h.stay fun x hx => LS.push_ob_lt _ _ (hM.lt hx)
/-- The border turned. -/
theorem Tab.border (h : Tab S tb mb es bd ol) {ord : AV} (ht : S.ob tb = .cells [.map mb, ord, .int 0 bd] 0) {bd' : Int} : Tab (S.set tb (.cells ([.map mb, ord, .int 0 bd].set 2 (.int 0 bd')) 0)) tb mb es bd' ol := by
  have hs : ∀ {x l m}, S.ob x = .cells l m → x ≠ tb → (S.set tb (.cells ([.map mb, ord, .int 0 bd].set 2 (.int 0 bd')) 0)).ob x = .cells l m := fun {x l m} e hne => by rw [LS.set_ob_ne _ _ hne, e]
  have hsl : ∀ {x : Nat} {z : Int} {v : AV}, S.ob x = .cells [.int 0 z, v] 0 → x ≠ tb := fun e => h.cells_ne e fun o => by simp
  have hkb : ∀ {x : Nat} {n : Int}, S.ob x = .cells (kc n) 0 → x ≠ tb := fun e => h.cells_ne e fun o => by simp [kc]
  refine ⟨⟨ord, by rw [LS.set_ob_self]; rfl, ?_⟩, ?_, fun i e hi => ?_, h.hu, fun p a hp => ?_⟩
  · obtain ⟨ord', ht', ho⟩ := h.ht
    rw [ht] at ht'
    simp only [LObj.cells.injEq, List.cons.injEq, and_true, true_and] at ht'
    subst ht'
    refine ho.imp id fun ⟨b, h1, h2, h3⟩ => ⟨b, h1, hs h2 (h.cells_ne h2 fun o e => ?_), h3⟩
    have := h.hol 0 (.map mb) (by rw [e]; rfl)
    simp at this
  · obtain ⟨cl, hm⟩ := h.hm
    refine ⟨cl, ?_⟩
    rw [LS.set_ob_ne, hm]
    rintro rfl
    rw [ht] at hm; cases hm
  · obtain ⟨n, sb, p, kb, v, h1, h2, h3, h4, h5, h6, h7⟩ := h.he i e hi
    exact ⟨n, sb, p, kb, v, h1, h2, h3, h4, hs h5 (hsl h5), h6, hs h7 (hkb h7)⟩
  · rcases h.hol p a hp with h1 | ⟨kb, n, sb, v, i, e, h1, h2, h3, h4, h5, h6⟩
    · exact .inl h1
    · exact .inr ⟨kb, n, sb, v, i, e, h1, hs h2 (hkb h2), h3, h4, h5, hs h6 (hsl h6)⟩
end
end Go.Proofs.Ytlbojjiijfakaaa

namespace Go.Proofs.Ytlbojjiijfakaaa
open Go Go.X Go.Proofs.Ytlbojjiijfakaaa.G
set_option maxRecDepth 100000
set_option maxHeartbeats 400000
set_option linter.unusedVariables false
set_option linter.unusedSimpArgs false
variable {H : AH} {S : LS} {K : KF}

theorem f5_i (hM : Mem H S) (hK : ∀ H' S', Mem H' S' → Kept S S' → Tab S' (S.n + 1) S.n [] 0 [] → K (.ret (.ptr (S.n + 1) 0)) H') : f5 H K := by
  show f5_q0 f5_rr K H
  unfold f5_q0
  refine pMap_i hM fun H1 h1 => ?_
  simp only [one_s, one_map, bT_tt]
  refine pNew_i h1 (by simp) fun H2 h2 => ?_
  refine hK H2 _ h2 ((Kept.push hM _).trans (Kept.push h1 _)) ⟨⟨.nslice, LS.push_ob_self _ _, .inl ⟨rfl, rfl⟩⟩, ⟨0, ?_⟩, fun i e h => by simp at h, fun i j e e' h => by simp at h, fun p a h => by simp at h⟩
  rw [LS.push_ob_lt _ _ (by simp)]
  exact LS.push_ob_self _ _
theorem f7_i (hM : Mem H S) {tb mb : Nat} {es : List AEnt} {bd : Int} {ol : List AV} (hT : Tab S tb mb es bd ol) (hK : K (.ret (.int 0 bd)) H) : f7 (.ptr tb 0) H K := by
  obtain ⟨ord, ht, _⟩ := hT.ht
  show f7_q0 f7_rr K (.ptr tb 0) H
  unfold f7_q0
  simp only [pPEq_pn, Bool.not_true, onB_b, bI_ff, pNil_ptr, pFld_ptr, Nat.zero_add]
  refine pLoad_i hM ht (by rfl) ?_
  simp only [cI_z]
  exact hK
theorem f8_i (hM : Mem H S) {tb mb : Nat} {es : List AEnt} {bd : Int} {ol : List AV} (hT : Tab S tb mb es bd ol) (hK : K (.ret (.int 0 es.length)) H) : f8 (.ptr tb 0) H K := by
  obtain ⟨ord, ht, _⟩ := hT.ht
  obtain ⟨cl, hm⟩ := hT.hm
  show f8_q0 f8_rr K (.ptr tb 0) H
  unfold f8_q0
  simp only [pPEq_pn, Bool.not_true, onB_b, bI_ff, pNil_ptr, pFld_ptr, Nat.zero_add]
  refine pLoad_i hM ht (by rfl) ?_
  refine mapLen_i hM hm ?_
  simp only [cI_z]
  exact hK
theorem f11_i (hM : Mem H S) {n : Int} (hK : ∀ H', Mem H' (S.push (.cells (kc n) 0)) → K (.ret (KI n)) H') : f11 n H K := by
  show f11_q0 f11_rr K _ H
  unfold f11_q0
  refine pNew_i hM (by simp) fun H1 h1 => ?_
  refine pStoreN_i h1 (LS.push_ob_self _ _) (by omega) rfl (by simp) (by simp) fun H2 h2 => ?_
  refine pLoadN_i h2 (LS.set_ob_self _ _ _) (by simp [spliceL]) ?_
  refine hK H2 ?_
  have e : (S.push (.cells [.int 0 (.ofNat 0), .int 0 (.ofNat 0), .str 0 0] 0)).set S.n (.cells (spliceL [.int 0 (.ofNat 0), .int 0 (.ofNat 0), .str 0 0] 0 [.int 0 (.ofNat 2), .int 0 n, .str 0 0]) 0) = S.push (.cells (kc n) 0) := by
    simp only [LS.set, LS.push]
    congr 1
    funext x
    split <;> rfl
  rw [← e]; exact h2
end Go.Proofs.Ytlbojjiijfakaaa

namespace Go.Proofs.Ytlbojjiijfakaaa
open Go Go.X Go.Proofs.Ytlbojjiijfakaaa.G
set_option maxRecDepth 100000
set_option maxHeartbeats 400000
set_option linter.unusedVariables false
set_option linter.unusedSimpArgs false
variable {H : AH} {S : LS} {K : KF}

/-- What the order of keys is in memory. -/
def OrdIs (S : LS) (ord : AV) (ol : List AV) : Prop := (ord = .nslice ∧ ol = []) ∨ ∃ b, ord = .slice b 0 ol.length ol.length 1 false ∧ S.ob b = .cells ol 0 ∧ ol ≠ []

theorem append_ord (hM : Mem H S) {ord : AV} {ol : List AV} {bx : Nat} {kb : Nat} {k : AV → AH → Prop} (ho : OrdIs S ord ol) (hx : S.ob bx = .cells [.ptr kb 0] 0) (hl : ol.length < 1000000)
    (hk : ∀ H' S', Mem H' S' → (S'.n = S.n + 1) → (∀ y, y < S.n → (∀ b, ord ≠ .slice b 0 ol.length ol.length 1 false ∨ y ≠ b) → S'.ob y = S.ob y) → S'.ob S.n = .cells (ol ++ [.ptr kb 0]) 0 → k (.slice S.n 0 (ol.length + 1) (ol.length + 1) 1 false) H') :
    pApp 1 8 ord (.slice bx 0 1 1 1 true) H k := by
  rcases ho with ⟨rfl, rfl⟩ | ⟨b, rfl, hb, hne⟩
  · refine pApp_nil hM hx (by simp) (by omega) (by omega) (by omega) (by simp) fun H1 h1 => ?_
    exact hk H1 _ h1 rfl (fun y hy _ => LS.push_ob_lt _ _ hy) (LS.push_ob_self _ _)
  · refine pApp_grow hM hx (by simp) hb (by omega) (by simp) (by omega) (by omega) (by omega) (by simp) fun H1 h1 => ?_
    refine hk H1 _ h1 rfl (fun y hy h => ?_) ?_
    · rw [LS.push_ob_lt _ _ (by simpa using hy)]
      rcases h b with h | h
      · exact absurd rfl h
      · exact LS.set_ob_ne _ _ h
    · have := LS.push_ob_self (S.set b .dead) (.cells (ol ++ List.take (1 * 1) (List.drop 0 [.ptr kb 0])) 0)
      simpa using this

/-- The border's loop. -/
theorem f6_loop (R : f6_R) (hR : R = f11) {tb mb : Nat} {es : List AEnt} {ol : List AV} : ∀ (n : Nat) {H : AH} {S : LS} {bd : Int}, Mem H S → Tab S tb mb es bd ol → 0 ≤ bd → bd ≤ 1000 → (∀ j, 1 ≤ j → j ≤ bd → Has es j) → 1001 - bd < n →
    (∀ H' S' bd', Mem H' S' → Tab S' tb mb es bd' ol → BdOk es bd' → Kept S S' → K (.ret (.bool true)) H') → f6_l3 R K n (.ptr tb 0) H
  | 0, H, S, bd, _, _, h0, h1, _, hn, _ => by omega
  | n + 1, H, S, bd, hM, hT, h0, h1, hall, hn, hK => by
    subst hR
    obtain ⟨ord, ht, ho⟩ := hT.ht
    obtain ⟨cl, hm⟩ := hT.hm
    show f6_q3 _ K (f6_p5 _ K (f6_l3 _ K n)) (f6_p2 _ K) (.ptr tb 0) H
    unfold f6_q3
    simp only [pNil_ptr, pFld_ptr, Nat.zero_add]
    refine pLoad_i hM ht (by rfl) ?_
    refine pLoad_i hM ht (by rfl) ?_
    simp only [cI_z, iadd, io1]
    refine w0 (by omega) (by omega) ?_
    refine f11_i hM fun H1 h1' => ?_
    have hk1 : Kept S (S.push (.cells (kc (bd + 1)) 0)) := Kept.push hM _
    have hT1 := hT.push hM (o := .cells (kc (bd + 1)) 0)
    have ht1 : (S.push (.cells (kc (bd + 1)) 0)).ob tb = .cells [.map mb, ord, .int 0 bd] 0 := by
      rw [LS.push_ob_lt _ _ (hM.lt (by rw [ht]; simp)), ht]
    have hm1 : (S.push (.cells (kc (bd + 1)) 0)).ob mb = .map es cl := by
      rw [LS.push_ob_lt _ _ (hM.lt (by rw [hm]; simp)), hm]
    simp only [cR_ret]
    refine pLoad_i h1' ht1 (by rfl) ?_
    refine bT_i (by simp [sameAV]) ?_
    by_cases hh : Has es (bd + 1)
    · have hh' := hh
      obtain ⟨e, he, hk⟩ := hh
      obtain ⟨i, hi⟩ := List.getElem?_of_mem he
      obtain ⟨m, sb, p, kb, v, g1, g2, g3, g4, _⟩ := hT.he i e hi
      have hm2 : m = bd + 1 := KI_inj (g1.symm.trans hk)
      refine pLook_i h1' hm1 (hT.find_some (by omega) (by omega) hi hk) ?_
      simp only [lookV, hi, g4, pPEq_pn, onB_b, Bool.not_false, bI_tt]
      show f6_q5 _ K (f6_l3 _ K n) (.ptr tb 0) H1
      unfold f6_q5
      simp only [pNil_ptr, pFld_ptr, Nat.zero_add]
      refine pLoad_i h1' ht1 (by rfl) ?_
      simp only [cI_z, iadd, io1]
      refine w0 (by omega) (by omega) ?_
      refine pStore_i h1' ht1 (by omega) (by simp) (by simp) fun H2 h2 => ?_
      have hT2 := hT1.border (bd' := bd + 1) ht1
      refine f6_loop f11 rfl n h2 hT2 (by omega) (by omega) (fun j j1 j2 => ?_) (by omega) fun H' S' bd' q1 q2 q3 q4 => hK H' S' bd' q1 q2 q3 ((hk1.trans (Kept.set ht1 ?_)).trans q4)
      · rcases Int.lt_or_le bd j with hlt | hle
        · have : j = bd + 1 := by omega
          rw [this]; exact hh'
        · exact hall j j1 hle
      · intro l hl hb
        cases hl
        obtain ⟨z, hz⟩ := hb.2 _ (List.mem_cons_self ..)
        cases hz
    · refine pLook_i h1' hm1 (hT.find_none (by omega) (by omega) hh) ?_
      simp only [lookV, pPEq_nn, onB_b, bI_ff]
      exact hK H1 _ bd h1' hT1 ⟨h0, hall, hh⟩ hk1
end Go.Proofs.Ytlbojjiijfakaaa

namespace Go.Proofs.Ytlbojjiijfakaaa
open Go Go.X Go.Proofs.Ytlbojjiijfakaaa.G
set_option maxRecDepth 100000
set_option maxHeartbeats 400000
set_option linter.unusedVariables false
set_option linter.unusedSimpArgs false
variable {H : AH} {S : LS} {K : KF}

theorem f6_i (hM : Mem H S) {tb mb : Nat} {es : List AEnt} {bd : Int} {ol : List AV} {n : Int} {v : AV} (hT : Tab S tb mb es bd ol) (hv : v.one = true) (hvb : ∀ z, v ≠ .bool z) (hB : BdOk es bd) (hbd : bd ≤ 1000) (hl : ol.length < 100000) (h1 : 1 ≤ n) (h2 : n ≤ 1000) (hn : ¬ Has es n)
    (hK : ∀ H' S' es' bd' ol', Mem H' S' → Tab S' tb mb es' bd' ol' → BdOk es' bd' → Kept S S' → es'.length = es.length + 1 → ol'.length = ol.length + 1 → (∀ m, Has es' m ↔ Has es m ∨ m = n) → K (.ret (.bool true)) H') : f6 (.ptr tb 0) (KI n) v H K := by
  obtain ⟨ord, ht, ho⟩ := hT.ht
  obtain ⟨cl, hm⟩ := hT.hm
  have htn : tb < S.n := hM.lt (by rw [ht]; simp)
  have hmn : mb < S.n := hM.lt (by rw [hm]; simp)
  have htm : tb ≠ mb := by rintro rfl; rw [ht] at hm; cases hm
  show f6_q0 f6_rr K (f6_p4 f6_rr K) (f6_p1 f6_rr K) (.ptr tb 0) (KI n) v H
  unfold f6_q0
  refine xBox_agg hM (by simp [kc]) fun H1 h1' => ?_
  have hs1 : ∀ {x}, x < S.n → (S.push (.cells (kc n) 0)).ob x = S.ob x := fun h => LS.push_ob_lt _ _ h
  have ht1 := (hs1 htn).trans ht
  have hm1 := (hs1 hmn).trans hm
  simp only [pPEq_pn, Bool.not_true, onB_b, bI_ff, pNil_ptr, pFld_ptr, Nat.zero_add]
  refine pLoad_i h1' ht1 (by rfl) ?_
  refine pLoadN_i h1' (LS.push_ob_self _ _) (by simp [kc]) ?_
  have hf := hT.find_none (n := n) (by omega) (by omega) hn
  refine pLook_i h1' hm1 hf ?_
  simp only [lookV, pPEq_nn, onB_b, bI_ff]
  refine pLoad_i h1' ht1 (by rfl) ?_
  refine pLoadN_i h1' (LS.push_ob_self _ _) (by simp [kc]) ?_
  refine pLoad_i h1' ht1 (by rfl) ?_
  have hol : pLen ord = fun k => k (.int 0 ol.length) := by
    funext k
    rcases ho with ⟨rfl, rfl⟩ | ⟨b, rfl, _⟩ <;> simp
  rw [hol]
  simp only [cI_z, one_s, hv, bT_tt]
  refine h1'.atDead ?_
  refine pNew_i h1' (by simp [hv]) fun H2 h2' => ?_
  refine bT_i (by rw [h2'.n, h1'.n]; simp) ?_
  have hs2 : ∀ {x}, x < S.n → ((S.push (.cells (kc n) 0)).push (.cells [.int 0 ol.length, v] 0)).ob x = S.ob x := fun h => (LS.push_ob_lt _ _ (by simp; omega)).trans (hs1 h)
  refine pUpd_i h2' ((hs2 hmn).trans hm) hf fun H3 h3' => ?_
  simp only [putE, putCl] at h3'
  obtain ⟨S3, hS3⟩ : ∃ S3, ((S.push (.cells (kc n) 0)).push (.cells [.int 0 ol.length, v] 0)).set mb (.map (es ++ [⟨KI n, .ptr (S.push (.cells (kc n) 0)).n 0, cl⟩]) (cl + 1)) = S3 := ⟨_, rfl⟩
  have h3' : Mem H3 S3 := by rw [← hS3]; exact h3'
  have hn3 : S3.n = S.n + 2 := by rw [← hS3]; rfl
  have hs3 : ∀ {x}, x < S.n → x ≠ mb → S3.ob x = S.ob x := fun h hne => by rw [← hS3, LS.set_ob_ne _ _ hne]; exact hs2 h
  have hm3 : S3.ob mb = .map (es ++ [⟨KI n, .ptr (S.n + 1) 0, cl⟩]) (cl + 1) := by rw [← hS3]; exact LS.set_ob_self _ _ _
  have hk3 : S3.ob S.n = .cells (kc n) 0 := by
    rw [← hS3, LS.set_ob_ne _ _ (by omega), LS.push_ob_lt _ _ (by simp)]; exact LS.push_ob_self _ _
  have hv3 : S3.ob (S.n + 1) = .cells [.int 0 ol.length, v] 0 := by
    rw [← hS3, LS.set_ob_ne _ _ (by omega)]; exact LS.push_ob_self (S.push (.cells (kc n) 0)) _
  have ht3 := (hs3 htn htm).trans ht
  show f6_q1 f6_rr K (f6_l3 f6_rr K NL) (.ptr tb 0) (.ptr S.n 0) H3
  unfold f6_q1
  simp only [pNil_ptr, pFld_ptr, Nat.zero_add]
  refine pLoad_i h3' ht3 (by rfl) ?_
  simp only [one_s, one_ptr, bT_tt]
  refine pNewS_i h3' rfl (by simp) fun H4 h4' => ?_
  have ho3 : OrdIs (S3.push (.cells [.ptr S.n 0] 0)) ord ol := ho.imp id fun ⟨b, g1, g2, g3⟩ => ⟨b, g1, by
    have hb : b < S.n := hM.lt (by rw [g2]; simp)
    have hbm : b ≠ mb := by rintro rfl; rw [g2] at hm; cases hm
    rw [LS.push_ob_lt _ _ (by omega), hs3 hb hbm, g2], g3⟩
  refine append_ord h4' ho3 (LS.push_ob_self _ _) (by omega) fun H5 S5 h5' hn5 hs5 hnew5 => ?_
  simp only [LS.push_n, hn3] at hn5 hs5 hnew5
  -- what stays
  have hs5' : ∀ {x l}, S.ob x = .cells l 0 → x ≠ tb → (ol ≠ [] → l ≠ ol) → S5.ob x = .cells l 0 := fun {x l} e hne hno => by
    have hx : x < S.n := hM.lt (by rw [e]; simp)
    have hxm : x ≠ mb := by rintro rfl; rw [e] at hm; cases hm
    rw [hs5 x (by omega) fun b => ?_, LS.push_ob_lt _ _ (by omega), hs3 hx hxm, e]
    rcases ho with ⟨rfl, rfl⟩ | ⟨b', rfl, g2, g3⟩
    · exact .inl (by simp)
    · by_cases hb : b' = b
      · subst hb
        refine .inr fun e2 => ?_
        subst e2
        rw [e] at g2
        exact hno g3 (by simpa using g2)
      · exact .inl (by simp [hb])
  have ht5 : S5.ob tb = .cells [.map mb, ord, .int 0 bd] 0 := by
    rw [hs5 tb (by omega) fun b => ?_, LS.push_ob_lt _ _ (by omega), ht3]
    rcases ho with ⟨rfl, rfl⟩ | ⟨b', rfl, g2, g3⟩
    · exact .inl (by simp)
    · by_cases hb : b' = b
      · subst hb
        refine .inr fun e2 => ?_
        subst e2
        rw [ht] at g2
        simp only [LObj.cells.injEq, and_true] at g2
        have := hT.hol 0 (.map mb) (by rw [← g2]; rfl)
        simp at this
      · exact .inl (by simp [hb])
  refine pStore_i h5' ht5 (by omega) (by simp) (by simp) fun H6 h6' => ?_
  simp only [LS.push_n, hn3] at h6'
  generalize hS6 : S5.set tb (.cells ([.map mb, ord, .int 0 bd].set 1 (.slice (S.n + 2 + 1) 0 (ol.length + 1) (ol.length + 1) 1 false)) 0) = S6 at h6'
  have hs6 : ∀ {x o}, S5.ob x = o → x ≠ tb → S6.ob x = o := fun {x o} e hne => by rw [← hS6, LS.set_ob_ne _ _ hne, e]
  have hol0 : ∀ {l : List AV}, (∀ a, l[0]? = some a → a ≠ .nptr ∧ ∀ b o, a ≠ .ptr b o) → l ≠ [] → l ≠ ol := fun {l} h hne e => by
    subst e
    cases l with
    | nil => exact hne rfl
    | cons a l =>
      obtain ⟨g1, g2⟩ := h a rfl
      rcases hT.hol 0 a rfl with g | ⟨kb, _, _, _, _, _, g, _⟩
      · exact g1 g
      · exact g2 _ _ g
  have hb5 : ∀ {x}, x < S.n → (∀ l, S.ob x = .cells l 0 → l ≠ ol) → S5.ob x = S3.ob x := fun {x} hx hne => by
    rw [hs5 x (by omega) fun b => ?_, LS.push_ob_lt _ _ (by omega)]
    rcases ho with ⟨rfl, rfl⟩ | ⟨b', rfl, g2, g3⟩
    · exact .inl (by simp)
    · by_cases hb : b' = b
      · subst hb
        exact .inr fun e2 => by subst e2; exact hne _ g2 rfl
      · exact .inl (by simp [hb])
  have hm6 : S6.ob mb = .map (es ++ [⟨KI n, .ptr (S.n + 1) 0, cl⟩]) (cl + 1) := hs6 ((hb5 hmn fun l e => by rw [hm] at e; cases e).trans hm3) (Ne.symm htm)
  have hk6 : S6.ob S.n = .cells (kc n) 0 := hs6 (by
    rw [hs5 _ (by omega) fun b => ?_, LS.push_ob_lt _ _ (by omega), hk3]
    rcases ho with ⟨rfl, rfl⟩ | ⟨b', rfl, g2, g3⟩
    · exact .inl (by simp)
    · by_cases hb : b' = b
      · subst hb
        exact .inr fun e2 => by have := hM.lt (b := b') (by rw [g2]; simp); omega
      · exact .inl (by simp [hb])) (by omega)
  have hv6 : S6.ob (S.n + 1) = .cells [.int 0 (.ofNat ol.length), v] 0 := hs6 (by
    rw [hs5 _ (by omega) fun b => ?_, LS.push_ob_lt _ _ (by omega), hv3]; rfl
    rcases ho with ⟨rfl, rfl⟩ | ⟨b', rfl, g2, g3⟩
    · exact .inl (by simp)
    · by_cases hb : b' = b
      · subst hb
        exact .inr fun e2 => by have := hM.lt (b := b') (by rw [g2]; simp); omega
      · exact .inl (by simp [hb])) (by omega)
  have ho6 : S6.ob (S.n + 2 + 1) = .cells (ol ++ [.ptr S.n 0]) 0 := hs6 hnew5 (by omega)
  have hsl : ∀ {x : Nat} {p : Nat} {u : AV}, S.ob x = .cells [.int 0 (.ofNat p), u] 0 → S6.ob x = .cells [.int 0 (.ofNat p), u] 0 := fun {x p u} e =>
    hs6 (hs5' e (hT.cells_ne e fun o => by simp) fun _ => hol0 (by simp) (by simp)) (hT.cells_ne e fun o => by simp)
  have hkb : ∀ {x : Nat} {m : Int}, S.ob x = .cells (kc m) 0 → S6.ob x = .cells (kc m) 0 := fun {x m} e =>
    hs6 (hs5' e (hT.cells_ne e fun o => by simp [kc]) fun _ => hol0 (by simp [kc]) (by simp [kc])) (hT.cells_ne e fun o => by simp [kc])
  have hlen : ∀ {p : Nat} {a : AV}, ol[p]? = some a → (ol ++ [.ptr S.n 0])[p]? = some a := fun {p a} e => by
    rw [List.getElem?_append_left (List.getElem?_eq_some_iff.1 e).1]; exact e
  have hes : ∀ {i : Nat} {e : AEnt}, es[i]? = some e → (es ++ [⟨KI n, .ptr (S.n + 1) 0, cl⟩])[i]? = some e := fun {p a} e => by
    rw [List.getElem?_append_left (List.getElem?_eq_some_iff.1 e).1]; exact e
  have hes2 : ∀ {i : Nat} {e : AEnt}, (es ++ [⟨KI n, .ptr (S.n + 1) 0, cl⟩])[i]? = some e → es[i]? = some e ∨ (i = es.length ∧ e = ⟨KI n, .ptr (S.n + 1) 0, cl⟩) := fun {i e} h => by
    rcases Nat.lt_or_ge i es.length with hl | hl
    · rw [List.getElem?_append_left hl] at h; exact .inl h
    · rw [List.getElem?_append_right hl] at h
      have : i - es.length = 0 := by
        rcases Nat.eq_zero_or_pos (i - es.length) with z | z
        · exact z
        · rw [List.getElem?_eq_none (by simp; omega)] at h; cases h
      rw [this] at h
      simp at h
      exact .inr ⟨by omega, h.symm⟩
  have hT6 : Tab S6 tb mb (es ++ [⟨KI n, .ptr (S.n + 1) 0, cl⟩]) bd (ol ++ [.ptr S.n 0]) := by
    refine ⟨⟨.slice (S.n + 2 + 1) 0 (ol.length + 1) (ol.length + 1) 1 false, by rw [← hS6]; exact LS.set_ob_self _ _ _, .inr ⟨S.n + 2 + 1, by simp, ho6, by simp⟩⟩, ⟨_, hm6⟩, fun i e hi => ?_, fun i j e e' hi hj heq => ?_, fun p a hp => ?_⟩
    · rcases hes2 hi with hi | ⟨rfl, rfl⟩
      · obtain ⟨m, sb, p, kb, u, g1, g2, g3, g4, g5, g6, g7⟩ := hT.he i e hi
        exact ⟨m, sb, p, kb, u, g1, g2, g3, g4, hsl g5, hlen g6, hkb g7⟩
      · exact ⟨n, S.n + 1, ol.length, S.n, v, rfl, h1, h2, rfl, hv6, by simp, hk6⟩
    · rcases hes2 hi with hi | ⟨rfl, rfl⟩ <;> rcases hes2 hj with hj | ⟨rfl, rfl⟩
      · exact hT.hu i j e e' hi hj heq
      · exfalso
        obtain ⟨m, sb, p, kb, u, g1, g2, g3, g4, g5, g6, g7⟩ := hT.he i e hi
        rcases heq with heq | heq
        · exact hn ⟨e, List.mem_of_getElem? hi, heq⟩
        · rw [g4] at heq
          simp only [AV.ptr.injEq, and_true] at heq
          have := hM.lt (b := sb) (by rw [g5]; simp)
          omega
      · exfalso
        obtain ⟨m, sb, p, kb, u, g1, g2, g3, g4, g5, g6, g7⟩ := hT.he j e' hj
        rcases heq with heq | heq
        · exact hn ⟨e', List.mem_of_getElem? hj, heq.symm⟩
        · rw [g4] at heq
          simp only [AV.ptr.injEq, and_true] at heq
          have := hM.lt (b := sb) (by rw [g5]; simp)
          omega
      · rfl
    · rcases Nat.lt_or_ge p ol.length with hl | hl
      · rw [List.getElem?_append_left hl] at hp
        rcases hT.hol p a hp with g | ⟨kb, m, sb, u, i, e, g1, g2, g3, g4, g5, g6⟩
        · exact .inl g
        · exact .inr ⟨kb, m, sb, u, i, e, g1, hkb g2, hes g3, g4, g5, hsl g6⟩
      · have : p = ol.length := by
          rcases Nat.eq_or_lt_of_le hl with z | z
          · exact z.symm
          · rw [List.getElem?_eq_none (by simp; omega)] at hp; cases hp
        subst this
        simp at hp
        exact .inr ⟨S.n, n, S.n + 1, v, es.length, ⟨KI n, .ptr (S.n + 1) 0, cl⟩, hp.symm, hk6, by simp, rfl, rfl, hv6⟩
  have hk6' : Kept S S6 := fun x l hx hl => by
    have hb := hl.2
    have hne := hl.1
    refine hs6 (hs5' hx (hT.cells_ne hx fun o e => ?_) fun _ => hol0 (fun a ha => ?_) hne) (hT.cells_ne hx fun o e => ?_)
    · subst e; obtain ⟨z, hz⟩ := hb _ (List.mem_cons_self ..); cases hz
    · obtain ⟨z, rfl⟩ := hb a (List.mem_of_getElem? ha); simp
    · subst e; obtain ⟨z, hz⟩ := hb _ (List.mem_cons_self ..); cases hz
  have hHas : ∀ m, Has (es ++ [⟨KI n, .ptr (S.n + 1) 0, cl⟩]) m ↔ Has es m ∨ m = n := fun m => by
    constructor
    · rintro ⟨e, he, hk⟩
      rcases List.mem_append.1 he with he | he
      · exact .inl ⟨e, he, hk⟩
      · simp at he; subst he; exact .inr (KI_inj hk).symm
    · rintro (⟨e, he, hk⟩ | e)
      · exact ⟨e, by simp [he], hk⟩
      · exact ⟨⟨KI n, .ptr (S.n + 1) 0, cl⟩, by simp, by rw [e]⟩
  refine f6_loop f6_rr rfl NL h6' hT6 hB.1 hbd (fun j j1 j2 => (hHas j).2 (.inl (hB.2.1 j j1 j2))) (by have : NL = 1000000 := rfl; have := hB.1; omega) fun H' S' bd' q1 q2 q3 q4 => ?_
  exact hK H' S' _ bd' _ q1 q2 q3 (hk6'.trans q4) (by simp) (by simp) hHas
end Go.Proofs.Ytlbojjiijfakaaa

namespace Go.Proofs.Ytlbojjiijfakaaa
open Go Go.X Go.Proofs.Ytlbojjiijfakaaa.G
set_option maxRecDepth 100000
set_option maxHeartbeats 400000
set_option linter.unusedVariables false
set_option linter.unusedSimpArgs false
variable {H : AH} {S : LS} {K : KF}

structure Mid (S : LS) (tb mb : Nat) (es : List AEnt) (bd : Int) (ol nl : List AV) (j : Nat) (ord l : AV) : Prop where
  ht : S.ob tb = .cells [.map mb, ord, .int 0 bd] 0
  ho : OrdIs S ord ol
  hl : OrdIs S l nl
  hne : ∀ b m, ord = .slice b 0 ol.length ol.length 1 false → l ≠ .slice b 0 m m 1 false
  hm : ∃ cl, S.ob mb = .map es cl
  he : ∀ (i : Nat) (e : AEnt), es[i]? = some e → ∃ n sb p kb v, e.key = KI n ∧ 1 ≤ n ∧ n ≤ 1000 ∧ e.val = .ptr sb 0 ∧ S.ob sb = .cells [.int 0 (.ofNat p), v] 0 ∧ S.ob kb = .cells (kc n) 0 ∧ ((j ≤ p ∧ ol[p]? = some (.ptr kb 0)) ∨ nl[p]? = some (.ptr kb 0))
  hu : ∀ (i j : Nat) (e e' : AEnt), es[i]? = some e → es[j]? = some e' → (e.key = e'.key ∨ e.val = e'.val) → i = j
  hol : ∀ (p : Nat) (a : AV), j ≤ p → ol[p]? = some a → a = .nptr ∨ ∃ (kb : Nat) (n : Int) (sb : Nat) (v : AV) (i : Nat) (e : AEnt), a = .ptr kb 0 ∧ S.ob kb = .cells (kc n) 0 ∧ es[i]? = some e ∧ e.key = KI n ∧ e.val = .ptr sb 0 ∧ S.ob sb = .cells [.int 0 (.ofNat p), v] 0
  hnl : ∀ (p : Nat) (a : AV), nl[p]? = some a → ∃ (kb : Nat) (n : Int) (sb : Nat) (v : AV) (i : Nat) (e : AEnt), a = .ptr kb 0 ∧ S.ob kb = .cells (kc n) 0 ∧ es[i]? = some e ∧ e.key = KI n ∧ e.val = .ptr sb 0 ∧ S.ob sb = .cells [.int 0 (.ofNat p), v] 0
  hle : nl.length ≤ j
  hpt : ∀ (p : Nat) (a : AV), ol[p]? = some a → a = .nptr ∨ ∃ b, a = .ptr b 0

section
variable {tb mb : Nat} {es : List AEnt} {bd : Int} {ol nl : List AV} {j : Nat} {ord l : AV}
theorem Mid.find_some (h : Mid S tb mb es bd ol nl j ord l) {n : Int} {i : Nat} {e : AEnt} (hi : es[i]? = some e) (hk : e.key = KI n) : findA Try.prog 29 (KI n) es = some (some i) := by
  have hkeys : ∀ e ∈ es, ∃ n, e.key = KI n ∧ keyA Try.prog 29 (KI n) = true := fun e he => by
    obtain ⟨i, hi⟩ := List.getElem?_of_mem he
    obtain ⟨n, _, _, _, _, h1, h2, h3, _⟩ := h.he i e hi
    exact ⟨n, h1, keyA_KI (by omega) (by omega)⟩
  obtain ⟨m, g1, g2⟩ := hkeys e (List.mem_of_getElem? hi)
  rw [hk] at g1
  rw [← KI_inj g1] at g2
  refine findA_some g2 (fun e he => ?_) hi (by rw [hk, KI_same]; simp) fun i' e' hne he' => ?_
  · obtain ⟨m, g1, g2⟩ := hkeys e he
    rw [g1]; exact g2
  · obtain ⟨m, g1, g2⟩ := hkeys e' (List.mem_of_getElem? he')
    rw [g1, KI_same]
    refine decide_eq_false fun e2 => hne (h.hu i' i e' e he' hi (.inl ?_))
    rw [g1, hk, e2]
/-- A list of places is none of these. -/
def ptrs (l : List AV) : Prop := ∀ a, l[0]? = some a → a = .nptr ∨ ∃ b, a = .ptr b 0
theorem Mid.next (h : Mid S tb mb es bd ol nl j ord l) (hj : ol[j]? = some .nptr) : Mid S tb mb es bd ol nl (j + 1) ord l := by
  refine ⟨h.ht, h.ho, h.hl, h.hne, h.hm, fun i e hi => ?_, h.hu, fun p a hp ha => h.hol p a (by omega) ha, h.hnl, by have := h.hle; omega, h.hpt⟩
  obtain ⟨n, sb, p, kb, v, g1, g2, g3, g4, g5, g6, g7⟩ := h.he i e hi
  refine ⟨n, sb, p, kb, v, g1, g2, g3, g4, g5, g6, g7.imp (fun ⟨x, y⟩ => ⟨?_, y⟩) id⟩
  rcases Nat.eq_or_lt_of_le x with z | z
  · subst z; rw [hj] at y; cases y
  · exact z
/-- A key's place turned. -/
theorem Mid.move (h : Mid S tb mb es bd ol nl j ord l) (hM : Mem H S) {kb : Nat} {n : Int} {sb : Nat} {v : AV} {i : Nat} {e : AEnt} (hj : ol[j]? = some (.ptr kb 0)) (hkb : S.ob kb = .cells (kc n) 0) (hi : es[i]? = some e) (hk : e.key = KI n) (hv : e.val = .ptr sb 0) (hsb : S.ob sb = .cells [.int 0 (.ofNat j), v] 0)
    {S' : LS} {nb : Nat} (hnb : S.n ≤ nb) (hs : ∀ x o, S.ob x = o → o ≠ .dead → x ≠ sb → (∀ b, l ≠ .slice b 0 nl.length nl.length 1 false ∨ x ≠ b) → S'.ob x = o) (hsb' : S'.ob sb = .cells [.int 0 (.ofNat nl.length), v] 0) (hnew : S'.ob nb = .cells (nl ++ [.ptr kb 0]) 0) :
    Mid S' tb mb es bd ol (nl ++ [.ptr kb 0]) (j + 1) ord (.slice nb 0 (nl.length + 1) (nl.length + 1) 1 false) := by
  have hs' : ∀ {x : Nat} {c : List AV}, S.ob x = .cells c 0 → c ≠ [.int 0 (.ofNat j), v] → (nl ≠ [] → c ≠ nl) → S'.ob x = .cells c 0 := fun {x c} e1 e2 e3 => by
    refine hs x _ e1 (by simp) (fun e4 => ?_) fun b => ?_
    · subst e4; rw [hsb] at e1; exact e2 (by simpa using e1.symm)
    · rcases h.hl with ⟨rfl, _⟩ | ⟨b', rfl, g2, g3⟩
      · exact .inl (by simp)
      · by_cases hb : b' = b
        · subst hb
          refine .inr fun e4 => ?_
          subst e4
          rw [e1] at g2
          exact e3 g3 (by simpa using g2)
        · exact .inl (by simp [hb])
  have hnl0 : ∀ {c : List AV}, (∀ a, c[0]? = some a → ∀ b, a ≠ .ptr b 0) → nl ≠ [] → c ≠ nl := fun {c} h1 h2 e1 => by
    subst e1
    cases hc : c with
    | nil => exact h2 hc
    | cons a c' =>
      obtain ⟨kb, _, _, _, _, _, g, _⟩ := h.hnl 0 a (by rw [hc]; rfl)
      exact h1 a (by rw [hc]; rfl) kb g
  have hKB : ∀ {x : Nat} {m : Int}, S.ob x = .cells (kc m) 0 → S'.ob x = .cells (kc m) 0 := fun e1 => hs' e1 (by simp [kc]) (hnl0 (by simp [kc]))
  have hSB : ∀ {x p : Nat} {u : AV}, S.ob x = .cells [.int 0 (.ofNat p), u] 0 → x ≠ sb → S'.ob x = .cells [.int 0 (.ofNat p), u] 0 := fun {x p u} e1 e2 => by
    refine hs x _ e1 (by simp) e2 fun b => ?_
    rcases h.hl with ⟨rfl, _⟩ | ⟨b', rfl, g2, g3⟩
    · exact .inl (by simp)
    · by_cases hb : b' = b
      · subst hb
        refine .inr fun e4 => ?_
        subst e4
        rw [e1] at g2
        exact hnl0 (c := [.int 0 (.ofNat p), u]) (by simp) g3 (by simpa using g2)
      · exact .inl (by simp [hb])
  have happ : ∀ {p : Nat} {a : AV}, nl[p]? = some a → (nl ++ [.ptr kb 0])[p]? = some a := fun {p a} e => by
    rw [List.getElem?_append_left (List.getElem?_eq_some_iff.1 e).1]; exact e
  have hlt : ∀ {x : Nat}, S.ob x ≠ .dead → x < S.n := fun h => hM.lt h
  refine ⟨?_, ?_, .inr ⟨nb, by simp, hnew, by simp⟩, fun b m e1 e2 => ?_, ?_, fun i2 e2 hi2 => ?_, h.hu, fun p a hp ha => ?_, fun p a ha => ?_, by simp; exact h.hle, h.hpt⟩
  · exact hs' h.ht (by simp) (hnl0 (by simp))
  · refine h.ho.imp id fun ⟨b, g1, g2, g3⟩ => ⟨b, g1, hs b _ g2 (by simp) (fun e1 => ?_) fun b2 => ?_, g3⟩
    · subst e1
      rw [hsb] at g2
      simp only [LObj.cells.injEq, and_true] at g2
      have := h.hpt 0 (.int 0 (.ofNat j)) (by rw [← g2]; rfl)
      simp at this
    · by_cases hb : b2 = b
      · subst hb
        left
        intro e1
        exact h.hne b2 _ g1 e1
      · exact .inr (fun e => hb e.symm)
  · rcases h.ho with ⟨rfl, _⟩ | ⟨b', g1, g2, g3⟩
    · cases e1
    · rw [g1] at e1
      simp only [AV.slice.injEq, and_true, true_and] at e1
      simp only [AV.slice.injEq, and_true, true_and] at e2
      have := hlt (x := b') (by rw [g2]; simp)
      omega
  · obtain ⟨cl, hm⟩ := h.hm
    refine ⟨cl, hs mb _ hm (by simp) (fun e1 => by subst e1; rw [hsb] at hm; cases hm) fun b => ?_⟩
    rcases h.hl with ⟨rfl, _⟩ | ⟨b', rfl, g2, g3⟩
    · exact .inl (by simp)
    · by_cases hb : b' = b
      · subst hb
        exact .inr fun e4 => by subst e4; rw [hm] at g2; cases g2
      · exact .inl (by simp [hb])
  · by_cases hii : i2 = i
    · subst hii
      rw [hi] at hi2
      cases hi2
      obtain ⟨n', sb', p, kb', v', q1, q2, q3, q4, q5, q6, q7⟩ := h.he i2 e hi
      have : n' = n := KI_inj (q1.symm.trans hk)
      subst this
      exact ⟨n', sb, nl.length, kb, v, hk, q2, q3, hv, hsb', hKB hkb, .inr (by simp)⟩
    · obtain ⟨n', sb', p, kb', v', q1, q2, q3, q4, q5, q6, q7⟩ := h.he i2 e2 hi2
      have hne : sb' ≠ sb := fun e1 => hii (h.hu i2 i e2 e hi2 hi (.inr (by rw [q4, hv, e1])))
      refine ⟨n', sb', p, kb', v', q1, q2, q3, q4, hSB q5 hne, hKB q6, q7.imp (fun ⟨x, y⟩ => ⟨?_, y⟩) happ⟩
      rcases Nat.eq_or_lt_of_le x with z | z
      · exfalso
        subst z
        rw [hj] at y
        simp only [Option.some.injEq, AV.ptr.injEq, and_true] at y
        subst y
        rw [hkb] at q6
        simp only [LObj.cells.injEq, and_true] at q6
        exact hii (h.hu i2 i e2 e hi2 hi (.inl (by rw [q1, hk, kc_inj q6])))
      · exact z
  · rcases h.hol p a (by omega) ha with g | ⟨kb', n', sb', v', i', e', g1, g2, g3, g4, g5, g6⟩
    · exact .inl g
    · refine .inr ⟨kb', n', sb', v', i', e', g1, hKB g2, g3, g4, g5, hSB g6 fun e1 => ?_⟩
      subst e1
      rw [hsb] at g6
      simp at g6
      omega
  · rcases Nat.lt_or_ge p nl.length with hl | hl
    · rw [List.getElem?_append_left hl] at ha
      obtain ⟨kb', n', sb', v', i', e', g1, g2, g3, g4, g5, g6⟩ := h.hnl p a ha
      refine ⟨kb', n', sb', v', i', e', g1, hKB g2, g3, g4, g5, hSB g6 fun e1 => ?_⟩
      subst e1
      rw [hsb] at g6
      simp at g6
      have := h.hle
      omega
    · have : p = nl.length := by
        rcases Nat.eq_or_lt_of_le hl with z | z
        · exact z.symm
        · rw [List.getElem?_eq_none (by simp; omega)] at ha; cases ha
      subst this
      simp at ha
      exact ⟨kb, n, sb, v, i, e, ha.symm, hKB hkb, hi, hk, hv, hsb'⟩
theorem f12_loop (R : f12_R) (hol : ol.length < 100000) : ∀ (n : Nat) {H : AH} {S : LS} {nl : List AV} {j : Nat} {l : AV}, Mem H S → Mid S tb mb es bd ol nl j ord l → j ≤ ol.length → ol.length - j < n →
    (∀ H' S' nl', Mem H' S' → Tab S' tb mb es bd nl' → Kept S S' → nl'.length ≤ ol.length → K (.ret (.tup [])) H') → f12_l2 R K n (.ptr tb 0) l ord (.ofNat ol.length) (.ofNat j) H
  | 0, H, S, nl, j, l, _, _, _, hn, _ => by omega
  | n + 1, H, S, nl, j, l, hM, h, hj, hn, hK => by
    show f12_q2 R K (f12_p4 R K (f12_l2 R K n)) (f12_p1 R K) (f12_p3 R K (f12_l2 R K n)) (.ptr tb 0) l ord (.ofNat ol.length) (.ofNat j) H
    unfold f12_q2
    simp only [iLt_d, iofn]
    refine bI_dec (fun hlt => ?_) (fun hge => ?_)
    · have hlt' : j < ol.length := by omega
      obtain ⟨b, ho1, ho2, ho3⟩ : ∃ b, ord = .slice b 0 ol.length ol.length 1 false ∧ S.ob b = .cells ol 0 ∧ ol ≠ [] := by
        rcases h.ho with ⟨_, e⟩ | g
        · subst e; simp at hlt'
        · exact g
      rw [ho1]
      refine pIdx_i (by omega) (by omega) ?_
      have ej : ol[j]? = some ol[j] := List.getElem?_eq_getElem hlt'
      refine pLoad_i hM ho2 (v := ol[j]) (by rw [← ej]; congr 1; simp) ?_
      obtain ⟨cl, hm⟩ := h.hm
      have q3 : ∀ {l : AV} {nl : List AV} {S' : LS} {H' : AH}, Mem H' S' → Kept S S' → Mid S' tb mb es bd ol nl (j + 1) ord l → f12_p3 R K (f12_l2 R K n) (.ptr tb 0) l ord (.ofNat ol.length) (.ofNat j) H' := fun {l nl S' H'} hM' hk' h' => by
        show f12_q3 R K (f12_l2 R K n) (.ptr tb 0) l ord (.ofNat ol.length) (.ofNat j) H'
        unfold f12_q3
        simp only [iadd, iofn]
        refine w0 (by omega) (by omega) ?_
        have e1 : (j : Int) + (1 : Nat) = Int.ofNat (j + 1) := rfl
        rw [e1]
        exact f12_loop R hol n hM' h' hlt' (by omega) fun H2 S2 nl2 r1 r2 r3 r4 => hK H2 S2 nl2 r1 r2 (hk'.trans r3) r4
      rw [← ho1]
      rcases h.hol j ol[j] (Nat.le_refl _) ej with g | ⟨kb, m, sb, v, i, e, g1, g2, g3, g4, g5, g6⟩
      · rw [g]
        simp only [pPEq_nn, onB_b, bI_ff]
        exact q3 hM (Kept.refl S) (h.next (by rw [ej, g]))
      · rw [g1]
        simp only [pPEq_pn, onB_b, Bool.not_false, bI_tt, pNil_ptr, pFld_ptr, Nat.zero_add]
        refine pLoad_i hM h.ht (by rfl) ?_
        refine pLoadN_i hM g2 (by simp [kc]) ?_
        refine pLook_i hM hm (h.find_some g3 g4) ?_
        have hlen : ∀ k : AV → Prop, pLen l k = k (.int 0 nl.length) := fun k => by
          rcases h.hl with ⟨rfl, rfl⟩ | ⟨b', rfl, _⟩ <;> simp
        rw [hlen]
        simp only [cI_z, lookV, g3, g5, pNil_ptr, pFld_ptr, Nat.zero_add]
        refine pStore_i hM g6 (by omega) (by simp) (by simp) fun H1 h1 => ?_
        show f12_q4 R K (f12_p3 R K (f12_l2 R K n)) (.ptr tb 0) l (.ptr kb 0) ord (.ofNat ol.length) (.ofNat j) H1
        unfold f12_q4
        simp only [one_s, one_ptr, bT_tt]
        refine pNewS_i h1 rfl (by simp) fun H2 h2 => ?_
        have hl2 : OrdIs ((S.set sb (.cells ([AV.int 0 (.ofNat j), v].set 0 (.int 0 nl.length)) 0)).push (.cells [.ptr kb 0] 0)) l nl := h.hl.imp id fun ⟨b', y1, y2, y3⟩ => ⟨b', y1, (by
          have hb : b' < S.n := hM.lt (by rw [y2]; simp)
          rw [LS.push_ob_lt (S.set _ _) _ hb, LS.set_ob_ne, y2]
          rintro rfl
          rw [g6] at y2
          simp only [LObj.cells.injEq, and_true] at y2
          obtain ⟨kb2, _, _, _, _, _, y4, _⟩ := h.hnl 0 (.int 0 (.ofNat j)) (by rw [← y2]; rfl)
          cases y4), y3⟩
        refine append_ord h2 hl2 (LS.push_ob_self _ _) (by have := h.hle; omega) fun H3 S3 h3 hn3 hs3 hnew3 => ?_
        simp only [LS.push_n, LS.set_n] at hn3 hs3 hnew3
        refine q3 h3 ?_ (h.move hM (by rw [ej, g1]) g2 g3 g4 g5 g6 (nb := S.n + 1) (by omega) (fun x o y1 y2 y3 y4 => ?_) ?_ hnew3)
        · intro x c hx hc
          have hxn : x < S.n := hM.lt (by rw [hx]; simp)
          rw [hs3 x (by omega) fun b2 => ?_, LS.push_ob_lt (S.set _ _) _ hxn, LS.set_ob_ne, hx]
          · rintro rfl
            rw [g6] at hx
            cases hx
            obtain ⟨z, hz⟩ := hc.2 _ (List.mem_cons_self ..)
            cases hz
          · rcases h.hl with ⟨rfl, _⟩ | ⟨b', rfl, y2, y3⟩
            · exact .inl (by simp)
            · by_cases hb : b' = b2
              · subst hb
                refine .inr ?_
                rintro rfl
                rw [hx] at y2
                cases y2
                have hb := hc.2
                cases nl with
                | nil => exact y3 rfl
                | cons a nl =>
                  obtain ⟨z, rfl⟩ := hb a (by simp)
                  obtain ⟨_, _, _, _, _, _, y4, _⟩ := h.hnl 0 (.bool z) rfl
                  cases y4
              · exact .inl (by simp [hb])
        · have hxn : x < S.n := hM.lt (by rw [y1]; exact y2)
          rw [hs3 x (by omega) y4, LS.push_ob_lt (S.set _ _) _ hxn, LS.set_ob_ne _ _ y3, y1]
        · have hsn : sb < S.n := hM.lt (by rw [g6]; simp)
          rw [hs3 sb (by omega) fun b2 => ?_, LS.push_ob_lt (S.set _ _) _ hsn, LS.set_ob_self]
          · rfl
          · rcases h.hl with ⟨rfl, _⟩ | ⟨b', rfl, y2, y3⟩
            · exact .inl (by simp)
            · by_cases hb : b' = b2
              · subst hb
                refine .inr ?_
                rintro rfl
                rw [g6] at y2
                simp only [LObj.cells.injEq, and_true] at y2
                obtain ⟨kb2, _, _, _, _, _, y4, _⟩ := h.hnl 0 (.int 0 (.ofNat j)) (by rw [← y2]; rfl)
                cases y4
              · exact .inl (by simp [hb])
    · have hj' : j = ol.length := by omega
      show f12_q1 R K (.ptr tb 0) l H
      unfold f12_q1
      simp only [pNil_ptr, pFld_ptr, Nat.zero_add]
      refine pStore_i hM h.ht (by omega) (by simp) ?_ fun H1 h1 => ?_
      · rcases h.hl with ⟨rfl, _⟩ | ⟨b', rfl, _⟩ <;> rfl
      obtain ⟨cl, hm⟩ := h.hm
      have htm : mb ≠ tb := by rintro rfl; rw [h.ht] at hm; cases hm
      have hs : ∀ {x : Nat} {c : List AV}, S.ob x = .cells c 0 → c ≠ [.map mb, ord, .int 0 bd] → (S.set tb (.cells ([.map mb, ord, .int 0 bd].set 1 l) 0)).ob x = .cells c 0 := fun {x c} e1 e2 => by
        rw [LS.set_ob_ne, e1]
        rintro rfl
        rw [h.ht] at e1
        exact e2 (by simpa using e1.symm)
      refine hK H1 _ nl h1 ⟨⟨l, LS.set_ob_self _ _ _, h.hl.imp id fun ⟨b', y1, y2, y3⟩ => ⟨b', y1, hs y2 fun e => ?_, y3⟩⟩, ⟨cl, by rw [LS.set_ob_ne _ _ htm, hm]⟩, fun i e hi => ?_, h.hu, fun p a ha => ?_⟩ (Kept.set h.ht fun c e hc => ?_) (by have := h.hle; omega)
      · obtain ⟨n', sb, p, kb, v, q1, q2, q3, q4, q5, q6, q7⟩ := h.he i e hi
        refine ⟨n', sb, p, kb, v, q1, q2, q3, q4, hs q5 (by simp), ?_, hs q6 (by simp [kc])⟩
        rcases q7 with ⟨x, y⟩ | y
        · rw [List.getElem?_eq_none (by omega)] at y; cases y
        · exact y
      · obtain ⟨kb, n', sb, v, i, e, q1, q2, q3, q4, q5, q6⟩ := h.hnl p a ha
        exact .inr ⟨kb, n', sb, v, i, e, q1, hs q2 (by simp [kc]), q3, q4, q5, hs q6 (by simp)⟩
      · cases e
        obtain ⟨z, hz⟩ := hc.2 _ (List.mem_cons_self ..)
        cases hz
      · obtain ⟨_, _, _, _, _, _, y4, _⟩ := h.hnl 0 (.map mb) (by rw [e]; rfl)
        cases y4
end
theorem f12_i (hM : Mem H S) {tb mb : Nat} {es : List AEnt} {bd : Int} {ol : List AV} (hT : Tab S tb mb es bd ol) (hol : ol.length < 100000)
    (hK : ∀ H' S' nl', Mem H' S' → Tab S' tb mb es bd nl' → Kept S S' → nl'.length ≤ ol.length → K (.ret (.tup [])) H') : f12 (.ptr tb 0) H K := by
  obtain ⟨ord, ht, ho⟩ := hT.ht
  show f12_q0 f12_rr K (f12_l2 f12_rr K NL) (.ptr tb 0) H
  unfold f12_q0
  simp only [pNil_ptr, pFld_ptr, Nat.zero_add]
  refine pLoad_i hM ht (by rfl) ?_
  have hlen : ∀ k : AV → Prop, pLen ord k = k (.int 0 ol.length) := fun k => by
    rcases ho with ⟨rfl, rfl⟩ | ⟨b', rfl, _⟩ <;> simp
  rw [hlen]
  simp only [cI_z]
  have hmid : Mid S tb mb es bd ol [] 0 ord .nslice := ⟨ht, ho, .inl ⟨rfl, rfl⟩, fun b m _ => by simp, hT.hm, fun i e hi => by
    obtain ⟨n, sb, p, kb, v, g1, g2, g3, g4, g5, g6, g7⟩ := hT.he i e hi
    exact ⟨n, sb, p, kb, v, g1, g2, g3, g4, g5, g7, .inl ⟨Nat.zero_le _, g6⟩⟩, hT.hu, fun p a _ ha => hT.hol p a ha, fun p a ha => by simp at ha, Nat.le_refl _, fun p a ha => by
    rcases hT.hol p a ha with g | ⟨kb, _, _, _, _, _, g, _⟩
    · exact .inl g
    · exact .inr ⟨kb, g⟩⟩
  exact f12_loop f12_rr hol NL hM hmid (Nat.zero_le _) (by have : NL = 1000000 := rfl; omega) fun H' S' nl' q1 q2 q3 q4 => hK H' S' nl' q1 q2 q3 q4
end Go.Proofs.Ytlbojjiijfakaaa

namespace Go.Proofs.Ytlbojjiijfakaaa
open Go Go.X Go.Proofs.Ytlbojjiijfakaaa.G
set_option maxRecDepth 100000
set_option maxHeartbeats 400000
set_option linter.unusedVariables false
set_option linter.unusedSimpArgs false
variable {H : AH} {S : LS} {K : KF}

theorem erase_get {es : List AEnt} {i j : Nat} {e : AEnt} (h : es[j]? = some e) (hne : j ≠ i) : ∃ j' : Nat, (es.eraseIdx i)[j']? = some e := by
  rcases Nat.lt_or_ge j i with hl | hl
  · exact ⟨j, by rw [List.getElem?_eraseIdx, if_pos hl]; exact h⟩
  · exact ⟨j - 1, by rw [List.getElem?_eraseIdx, if_neg (by omega), show j - 1 + 1 = j by omega]; exact h⟩
theorem get_erase {es : List AEnt} {i j : Nat} {e : AEnt} (h : (es.eraseIdx i)[j]? = some e) : es[if j < i then j else j + 1]? = some e := by
  rw [List.getElem?_eraseIdx] at h
  split at h <;> rename_i hl
  · rw [if_pos hl]; exact h
  · rw [if_neg hl]; exact h
theorem get_erase_ne {i j : Nat} : (if j < i then j else j + 1) ≠ i := by split <;> omega

section
variable {tb mb : Nat} {es : List AEnt} {bd : Int} {ol : List AV}
theorem Tab.take (hT : Tab S tb mb es bd ol) (hM : Mem H S) {n : Int} {i : Nat} {e : AEnt} {sb p kb : Nat} {v : AV} (hi : es[i]? = some e) (hk : e.key = KI n) (hv : e.val = .ptr sb 0) (hsb : S.ob sb = .cells [.int 0 (.ofNat p), v] 0) (hp : ol[p]? = some (.ptr kb 0)) (hkb : S.ob kb = .cells (kc n) 0)
    {ob : Nat} (hob : S.ob ob = .cells ol 0) {ord : AV} (hord : S.ob tb = .cells [.map mb, ord, .int 0 bd] 0) (ho : ord = .slice ob 0 ol.length ol.length 1 false) {S' : LS} {cl : Nat} (h1 : S'.ob ob = .cells (ol.set p .nptr) 0) (h2 : S'.ob mb = .map (es.eraseIdx i) cl) (h3 : ∀ x, x < S.n → x ≠ ob → x ≠ mb → S'.ob x = S.ob x) :
    Tab S' tb mb (es.eraseIdx i) bd (ol.set p .nptr) := by
  obtain ⟨cl0, hm⟩ := hT.hm
  have hs : ∀ {x : Nat} {c : List AV}, S.ob x = .cells c 0 → c ≠ ol → S'.ob x = .cells c 0 := fun {x c} e1 e2 => by
    rw [h3 x (hM.lt (by rw [e1]; simp)) (fun e3 => ?_) (fun e3 => ?_), e1]
    · subst e3; rw [hob] at e1; exact e2 (by simpa using e1.symm)
    · subst e3; rw [e1] at hm; cases hm
  have h0 : ∀ {c : List AV}, (∀ a, c[0]? = some a → a ≠ .nptr ∧ ∀ b, a ≠ .ptr b 0) → c ≠ [] → c ≠ ol := fun {c} g1 g2 e1 => by
    subst e1
    cases hc : c with
    | nil => exact g2 hc
    | cons a c' =>
      rcases hT.hol 0 a (by rw [hc]; rfl) with g | ⟨kb', _, _, _, _, _, g, _⟩
      · exact (g1 a (by rw [hc]; rfl)).1 g
      · exact (g1 a (by rw [hc]; rfl)).2 _ g
  have hlen : ol ≠ [] := by rintro rfl; simp at hp
  refine ⟨⟨ord, hs hord (h0 (by simp) (by simp)), .inr ⟨ob, by simpa using ho, h1, by simpa using hlen⟩⟩, ⟨cl, h2⟩, fun j e' hj => ?_, fun j j' e1 e2 hj hj' heq => ?_, fun p' a ha => ?_⟩
  · obtain ⟨m, sb', p', kb', v', g1, g2, g3, g4, g5, g6, g7⟩ := hT.he _ _ (get_erase hj)
    refine ⟨m, sb', p', kb', v', g1, g2, g3, g4, hs g5 (h0 (by simp) (by simp)), ?_, hs g7 (h0 (by simp [kc]) (by simp [kc]))⟩
    rw [List.getElem?_set_ne, g6]
    rintro rfl
    rw [hp] at g6
    simp only [Option.some.injEq, AV.ptr.injEq, and_true] at g6
    subst g6
    rw [hkb] at g7
    simp only [LObj.cells.injEq, and_true] at g7
    exact get_erase_ne (hT.hu _ _ _ _ (get_erase hj) hi (.inl (by rw [g1, hk, kc_inj g7])))
  · have := hT.hu _ _ _ _ (get_erase hj) (get_erase hj') heq
    split at this <;> split at this <;> omega
  · by_cases hpp : p' = p
    · subst hpp
      rw [List.getElem?_set_self (List.getElem?_eq_some_iff.1 hp).1] at ha
      exact .inl (by simpa using ha.symm)
    · rw [List.getElem?_set_ne (Ne.symm hpp)] at ha
      rcases hT.hol p' a ha with g | ⟨kb', m, sb', v', i', e', g1, g2, g3, g4, g5, g6⟩
      · exact .inl g
      · have hii : i' ≠ i := by
          rintro rfl
          rw [hi] at g3
          cases g3
          rw [hv] at g5
          simp only [AV.ptr.injEq, and_true] at g5
          subst g5
          rw [hsb] at g6
          simp at g6
          exact hpp (by omega)
        obtain ⟨j, hj⟩ := erase_get g3 hii
        exact .inr ⟨kb', m, sb', v', j, e', g1, hs g2 (h0 (by simp [kc]) (by simp [kc])), hj, g4, g5, hs g6 (h0 (by simp) (by simp))⟩

theorem f9_tail (hM : Mem H S) (hT : Tab S tb mb es bd ol) (hol : ol.length < 100000) (hes : es.length < 100000)
    (hK : ∀ H' S' ol', Mem H' S' → Tab S' tb mb es bd ol' → Kept S S' → ol'.length ≤ ol.length → K (.ret (.bool true)) H') : f9_p2 f9_rr K (.ptr tb 0) H := by
  obtain ⟨ord, ht, ho⟩ := hT.ht
  obtain ⟨cl, hm⟩ := hT.hm
  show f9_q2 f9_rr K (f9_p3 f9_rr K) (.ptr tb 0) H
  unfold f9_q2
  simp only [pNil_ptr, pFld_ptr, Nat.zero_add]
  refine pLoad_i hM ht (by rfl) ?_
  have hlen : ∀ k : AV → Prop, pLen ord k = k (.int 0 ol.length) := fun k => by
    rcases ho with ⟨rfl, rfl⟩ | ⟨b', rfl, _⟩ <;> simp
  rw [hlen]
  simp only [cI_z]
  refine pLoad_i hM ht (by rfl) ?_
  refine mapLen_i hM hm ?_
  simp only [cI_z, imul, iadd, iofn]
  refine w0 (by omega) (by omega) (w0 (by omega) (by omega) ?_)
  simp only [iLt_d]
  refine bI_dec (fun _ => ?_) (fun _ => ?_)
  · show f12 (.ptr tb 0) H _
    refine f12_i hM hT hol fun H' S' nl' q1 q2 q3 q4 => ?_
    exact hK H' S' nl' q1 q2 q3 q4
  · exact hK H S ol hM hT (Kept.refl S) (Nat.le_refl _)

theorem f9_i (hM : Mem H S) (hT : Tab S tb mb es bd ol) {n : Int} {i : Nat} {e : AEnt} (hi : es[i]? = some e) (hk : e.key = KI n) (hb0 : 0 ≤ bd) (hb1 : bd ≤ 1000) (hol : ol.length < 100000) (hes : es.length < 100000)
    (hK : ∀ H' S' ol', Mem H' S' → Tab S' tb mb (es.eraseIdx i) (if n ≤ bd then n - 1 else bd) ol' → Kept S S' → ol'.length ≤ ol.length → K (.ret (.bool true)) H') : f9 (.ptr tb 0) (KI n) H K := by
  obtain ⟨ord, ht, ho⟩ := hT.ht
  obtain ⟨cl, hm⟩ := hT.hm
  obtain ⟨m, sb, p, kb, v, g1, g2, g3, g4, g5, g6, g7⟩ := hT.he i e hi
  obtain rfl : m = n := KI_inj (g1.symm.trans hk)
  obtain ⟨ob, ho1, ho2, ho3⟩ : ∃ b, ord = .slice b 0 ol.length ol.length 1 false ∧ S.ob b = .cells ol 0 ∧ ol ≠ [] := by
    rcases ho with ⟨_, e⟩ | g
    · subst e; simp at g6
    · exact g
  have htn : tb < S.n := hM.lt (by rw [ht]; simp)
  have hmn : mb < S.n := hM.lt (by rw [hm]; simp)
  have hon : ob < S.n := hM.lt (by rw [ho2]; simp)
  have hsn : sb < S.n := hM.lt (by rw [g5]; simp)
  have htm : tb ≠ mb := by rintro rfl; rw [ht] at hm; cases hm
  have hom : ob ≠ mb := by rintro rfl; rw [ho2] at hm; cases hm
  have hto : tb ≠ ob := by
    rintro rfl
    rw [ht] at ho2
    simp only [LObj.cells.injEq, and_true] at ho2
    have := hT.hol 0 (.map mb) (by rw [← ho2]; rfl)
    simp at this
  have hpl : p < ol.length := (List.getElem?_eq_some_iff.1 g6).1
  show f9_q0 f9_rr K (f9_p1 f9_rr K) (.ptr tb 0) (KI m) H
  unfold f9_q0
  refine xBox_agg hM (by simp [kc]) fun H1 h1 => ?_
  have hs1 : ∀ {x}, x < S.n → (S.push (.cells (kc m) 0)).ob x = S.ob x := fun h => LS.push_ob_lt _ _ h
  have ht1 := (hs1 htn).trans ht
  have hm1 := (hs1 hmn).trans hm
  have hf := hT.find_some (n := m) (by omega) (by omega) hi g1
  simp only [pPEq_pn, Bool.not_true, onB_b, bI_ff, pNil_ptr, pFld_ptr, Nat.zero_add]
  refine pLoad_i h1 ht1 (by rfl) ?_
  refine pLoadN_i h1 (LS.push_ob_self _ _) (by simp [kc]) ?_
  refine pLook_i h1 hm1 hf ?_
  simp only [lookV, hi, g4, pPEq_pn, Bool.not_true, onB_b, bI_ff]
  refine pLoad_i h1 ht1 (by rfl) ?_
  refine pLoad_i h1 ht1 (by rfl) ?_
  refine pLoadN_i h1 (LS.push_ob_self _ _) (by simp [kc]) ?_
  refine pLook_i h1 hm1 hf ?_
  simp only [lookV, hi, g4, pNil_ptr, pFld_ptr, Nat.zero_add]
  refine pLoad_i h1 ((hs1 hsn).trans g5) (by rfl) ?_
  simp only [cI_z, iofn]
  rw [ho1]
  refine pIdx_i (by omega) (by omega) ?_
  refine pStore_i h1 ((hs1 hon).trans ho2) (by omega) (by simpa using hpl) (by simp) fun H2 h2 => ?_
  have ep : (0 + Int.toNat (p : Int) * 1) = p := by simp
  rw [ep] at h2
  show f9_q1 f9_rr K (f9_p4 f9_rr K) (f9_p2 f9_rr K) (.ptr tb 0) (.ptr S.n 0) H2
  unfold f9_q1
  simp only [pNil_ptr, pFld_ptr, Nat.zero_add]
  obtain ⟨S2, hS2⟩ : ∃ S2, (S.push (.cells (kc m) 0)).set ob (.cells (ol.set p .nptr) 0) = S2 := ⟨_, rfl⟩
  have h2 : Mem H2 S2 := by rw [← hS2]; exact h2
  have hs2 : ∀ {x}, x < S.n → x ≠ ob → S2.ob x = S.ob x := fun h hne => by rw [← hS2, LS.set_ob_ne _ _ hne]; exact hs1 h
  have hk2 : S2.ob S.n = .cells (kc m) 0 := by rw [← hS2, LS.set_ob_ne _ _ (by omega)]; exact LS.push_ob_self _ _
  have ho2' : S2.ob ob = .cells (ol.set p .nptr) 0 := by rw [← hS2]; exact LS.set_ob_self _ _ _
  refine pLoad_i h2 ((hs2 htn hto).trans ht) (by rfl) ?_
  refine pLoadN_i h2 hk2 (by simp [kc]) ?_
  refine pDel_i h2 ((hs2 hmn (Ne.symm hom)).trans hm) hf fun H3 h3 => ?_
  simp only [delE] at h3
  obtain ⟨S3, hS3⟩ : ∃ S3, S2.set mb (.map (es.eraseIdx i) cl) = S3 := ⟨_, rfl⟩
  rw [hS3] at h3
  have hk3 : S3.ob S.n = .cells (kc m) 0 := by rw [← hS3, LS.set_ob_ne _ _ (by omega), hk2]
  have hT3 : Tab S3 tb mb (es.eraseIdx i) bd (ol.set p .nptr) := hT.take hM hi g1 g4 g5 g6 g7 ho2 ht ho1 (cl := cl) (by rw [← hS3, LS.set_ob_ne _ _ hom, ho2']) (by rw [← hS3]; exact LS.set_ob_self _ _ _) (fun x hx e1 e2 => by rw [← hS3, LS.set_ob_ne _ _ e2, hs2 hx e1])
  have hkp3 : Kept S S3 := fun x c hx hc => by
    have hxn : x < S.n := hM.lt (by rw [hx]; simp)
    rw [← hS3, LS.set_ob_ne, hs2 hxn, hx]
    · rintro rfl
      rw [ho2] at hx
      simp only [LObj.cells.injEq, and_true] at hx
      subst hx
      obtain ⟨z, hz⟩ := hc.2 _ (List.mem_of_getElem? g6)
      cases hz
    · rintro rfl
      rw [hm] at hx; cases hx
  have ht3 : S3.ob tb = .cells [.map mb, ord, .int 0 bd] 0 := by rw [← hS3, LS.set_ob_ne _ _ htm, hs2 htn hto, ht]
  have hlen3 : (ol.set p .nptr).length = ol.length := by simp
  have hes3 : (es.eraseIdx i).length < 100000 := by
    have := List.length_eraseIdx_le es i
    omega
  refine pLoad_i h3 hk3 (by rfl) ?_
  simp only [cI_z, iEq_d, io2, decide_true, bI_tt]
  refine pLoad_i h3 hk3 (by rfl) ?_
  simp only [sEq_s, onB_b]
  refine bI_i (fun _ => ?_) (fun e => by simp at e)
  refine pLoad_i h3 hk3 (by rfl) ?_
  simp only [cI_z, iLt_d, io1]
  rw [show (!decide (m < 1)) = true by simp; omega]
  simp only [bI_tt]
  refine pLoad_i h3 hk3 (by rfl) ?_
  simp only [cI_z]
  refine pLoad_i h3 ht3 (by rfl) ?_
  simp only [cI_z, iLt_d]
  by_cases hle : m ≤ bd
  · rw [show (!decide (bd < m)) = true by simp; omega]
    simp only [bI_tt]
    show f9_q4 f9_rr K (f9_p2 f9_rr K) (.ptr tb 0) (.ptr S.n 0) H3
    unfold f9_q4
    simp only [pNil_ptr, pFld_ptr, Nat.zero_add]
    refine pLoad_i h3 hk3 (by rfl) ?_
    simp only [cI_z, isub, io1]
    refine w0 (by omega) (by omega) ?_
    refine pStore_i h3 ht3 (by omega) (by simp) (by simp) fun H4 h4 => ?_
    refine f9_tail h4 (hT3.border ht3) (by omega) hes3 fun H' S' ol' q1 q2 q3 q4 => hK H' S' ol' q1 (by rw [if_pos hle]; exact q2) ((hkp3.trans (Kept.set ht3 fun c e hc => ?_)).trans q3) (by omega)
    cases e
    obtain ⟨z, hz⟩ := hc.2 _ (List.mem_cons_self ..)
    cases hz
  · rw [show (!decide (bd < m)) = false by simp; omega]
    simp only [bI_ff]
    exact f9_tail h3 hT3 (by omega) hes3 fun H' S' ol' q1 q2 q3 q4 => hK H' S' ol' q1 (by rw [if_neg hle]; exact q2) (hkp3.trans q3) (by omega)
end
end Go.Proofs.Ytlbojjiijfakaaa

namespace Go.Proofs.Ytlbojjiijfakaaa
open Go Go.X Go.Proofs.Ytlbojjiijfakaaa.G
set_option maxRecDepth 100000
set_option maxHeartbeats 400000
set_option linter.unusedVariables false
set_option linter.unusedSimpArgs false

theorem mul_inj {k d i j : Nat} (hg : Nat.gcd d k = 1) (hij : j < i) (hik : i < k) : (i * d) % k ≠ (j * d) % k := fun e => by
  have h1 : k ∣ i * d - j * d := (Nat.dvd_iff_mod_eq_zero ..).2 (Nat.sub_mod_eq_zero_of_mod_eq e)
  rw [← Nat.sub_mul] at h1
  have h2 : k ∣ i - j := Nat.Coprime.dvd_of_dvd_mul_right (show Nat.Coprime k d by rw [Nat.Coprime, Nat.gcd_comm]; exact hg) h1
  have := Nat.le_of_dvd (by omega) h2
  omega
theorem nodup_le : ∀ (k : Nat) (l : List Nat), l.Nodup → (∀ x ∈ l, x < k) → l.length ≤ k
  | 0, l, _, h => by
    cases l with
    | nil => simp
    | cons a l => exact absurd (h a (by simp)) (by omega)
  | k + 1, l, hn, h => by
    by_cases hk : k ∈ l
    · have := nodup_le k (l.erase k) (hn.erase k) fun x hx => by
        have h1 := (hn.mem_erase_iff).1 hx
        have := h x h1.2
        omega
      rw [List.length_erase_of_mem hk] at this
      omega
    · have := nodup_le k l hn fun x hx => by
        have := h x hx
        have : x ≠ k := by rintro rfl; exact hk hx
        omega
      omega
theorem mul_all {k d r : Nat} (hg : Nat.gcd d k = 1) (hk : 0 < k) (hr : r < k) : ∃ i, i < k ∧ (i * d) % k = r := by
  have hN : ((List.range k).map fun i => (i * d) % k).Nodup := by
    rw [List.nodup_iff_pairwise_ne, List.pairwise_map]
    refine List.Pairwise.imp_of_mem ?_ List.pairwise_lt_range
    intro a b ha hb hab
    exact Ne.symm (mul_inj hg hab (by simpa using hb))
  by_cases h : r ∈ (List.range k).map fun i => (i * d) % k
  · obtain ⟨i, hi, e⟩ := List.mem_map.1 h
    exact ⟨i, by simpa using hi, e⟩
  · have := nodup_le k (r :: (List.range k).map fun i => (i * d) % k) (List.nodup_cons.2 ⟨h, hN⟩) fun x hx => by
      rcases List.mem_cons.1 hx with rfl | hx
      · exact hr
      · obtain ⟨i, _, rfl⟩ := List.mem_map.1 hx
        exact Nat.mod_lt _ hk
    simp at this
    omega
theorem gcd_step (x y : Nat) : Nat.gcd x y = Nat.gcd y (x % y) := by
  rw [Nat.gcd_comm x y, Nat.gcd_rec, Nat.gcd_comm]

variable {H : AH} {S : LS} {K : KF}
theorem f4_loop (R : f4_R) : ∀ (n x y : Nat), y < n → K (.ret (.int 0 (Nat.gcd x y : Nat))) H → f4_l2 R K n (x : Int) (y : Int) H
  | 0, x, y, h, _ => by omega
  | n + 1, x, y, h, hK => by
    show f4_q2 R K (f4_l2 R K n) (f4_p1 R K) (x : Int) (y : Int) H
    unfold f4_q2
    simp only [iEq_d, io0]
    by_cases hy : y = 0
    · subst hy
      simp only [Int.natCast_zero, decide_true, Bool.not_true, bI_ff]
      rw [Nat.gcd_zero_right] at hK
      exact hK
    · rw [show decide ((y : Int) = 0) = false by simp; omega]
      simp only [Bool.not_false, bI_tt, bI_ff, forceI_s]
      have e : Int.tmod (x : Int) (y : Int) = ((x % y : Nat) : Int) := rfl
      rw [e]
      refine f4_loop R n y (x % y) ?_ ?_
      · have := Nat.mod_lt x (show 0 < y by omega)
        omega
      · rw [← gcd_step]; exact hK
theorem f4_i {x y : Nat} (hy : y < 1000) (hK : K (.ret (.int 0 (Nat.gcd x y : Nat))) H) : f4 (x : Int) (y : Int) H K := by
  show f4_l2 f4_rr K NL (x : Int) (y : Int) H
  exact f4_loop f4_rr NL x y (by have : NL = 1000000 := rfl; omega) hK
end Go.Proofs.Ytlbojjiijfakaaa

namespace Go.X
def isT (o : COut) : Prop := match o with | .ret (.bool true) => True | _ => False
theorem isT_out {o : COut} (h : isT o) : o = .ret (.bool true) := by
  unfold isT at h
  split at h
  · rfl
  · exact h.elim
/-- A run from nothing, in any memory: what it leaves is nobody's. -/
theorem FunOk.known {P : Program} {g : Nat} {F : AH → KF → Prop} (hG : P.globals.size = 0) (hF : FunOk P g (fnX [] F)) (hr : F ⟨.e, 0⟩ fun o _ => isT o) : FunOk P g (fnX [] fun H K => K (.ret (.bool true)) H) := fun hb args H K h => by
  cases args with
  | cons a l => exact h.elim
  | nil =>
    refine ⟨.ret (.bool true), H, h, fun f w vs hr' hg hv => ?_⟩
    obtain ⟨o, H', ho, h2⟩ := hF hb [] ⟨.e, 0⟩ (fun o _ => isT o) hr
    obtain rfl := isT_out ho
    have h3 := h2 ⟨fun _ => False, f.blk, f.off, f.lim⟩ w vs (HRS.mk' (fun b hb => hb.elim) (fun b hb => hb.elim) (fun b c hb => hb.elim)) (fun g hg => by omega) (by generalize vs.toList = l at hv; cases hv; exact .nil)
    refine h3.mono fun e w' hp => ?_
    obtain ⟨f', s, u, rfl, hu⟩ := hp
    cases hu
    have hkeep : ∀ k, k < w.heap.size → w'.heap[k]? = w.heap[k]? := fun k hk => s.keep k hk fun b hb => hb.elim
    refine ⟨f, ⟨HRS.mk' hr'.dom (fun b hb ha => ?_) hr'.inj, .refl f, Nat.le_refl _, s.size, fun k hk _ => hkeep k hk, fun b hd ho => .inl ⟨b, hd, ho, rfl⟩, fun b _ _ => rfl, fun _ _ h => h, fun _ _ h => h, fun _ _ _ => rfl, s.os, s.tape, s.output⟩, .bool true, rfl, .bool true⟩
    rw [hkeep _ (hr'.toHRQ.block_lt hb ha)]
    exact hr'.obj b hb ha
end Go.X
namespace Go.Proofs.Ytlbojjiijfakaaa
open Go Go.X Go.Proofs.Ytlbojjiijfakaaa.G
set_option maxRecDepth 100000
set_option maxHeartbeats 400000
set_option linter.unusedVariables false
set_option linter.unusedSimpArgs false

theorem told_run : f10 ⟨.e, 0⟩ (fun o _ => isT o) = True := by kernel_rfl
noncomputable def toldK : AH → KF → Prop := fun H K => K (.ret (.bool true)) H
theorem told_ok : FunOk Try.prog 10 (fnX [] toldK) := FunOk.known (by kernel_rfl) f10_ok (told_run ▸ trivial)
noncomputable def R3 : f3_R := (f4, f5, f6, f7, f8, f9, toldK)
theorem r4 : R3.1 = f4 := rfl
theorem r5 : R3.2.1 = f5 := rfl
theorem r6 : R3.2.2.1 = f6 := rfl
theorem r7 : R3.2.2.2.1 = f7 := rfl
theorem r8 : R3.2.2.2.2.1 = f8 := rfl
theorem r9 : R3.2.2.2.2.2.1 = f9 := rfl
theorem r10 : R3.2.2.2.2.2.2 = toldK := rfl

variable {H : AH} {S : LS} {K : KF}
theorem Bools.ne {l : List AV} (h : Bools l) {p : Nat} {a : AV} (ha : l[p]? = some a) (hb : ∀ z, a ≠ .bool z) : False := by
  obtain ⟨z, hz⟩ := h.2 a (List.mem_of_getElem? ha)
  exact hb z hz
section
variable {tb mb : Nat} {es : List AEnt} {bd : Int} {ol : List AV}
/-- Blocks of truth values are no part of a table. -/
theorem Tab.stayB (h : Tab S tb mb es bd ol) {S' : LS} (hs : ∀ x o, S.ob x = o → (∀ l, o = .cells l 0 → ¬ Bools l) → S'.ob x = o) : Tab S' tb mb es bd ol := by
  have hs' : ∀ {x l}, S.ob x = .cells l 0 → ¬ Bools l → S'.ob x = .cells l 0 := fun {x l} e hb => hs x _ e fun l' e' => by cases e'; exact hb
  have hk : ∀ n, ¬ Bools (kc n) := fun n hb => hb.ne (p := 0) (a := .int 0 2) rfl (by simp)
  have hi' : ∀ (z : Int) (v : AV), ¬ Bools [.int 0 z, v] := fun z v hb => hb.ne (p := 0) (a := .int 0 z) rfl (by simp)
  refine ⟨?_, ?_, fun i e hi => ?_, h.hu, fun p a hp => ?_⟩
  · obtain ⟨ord, ht, ho⟩ := h.ht
    refine ⟨ord, hs' ht fun hb => hb.ne (p := 0) (a := .map mb) rfl (by simp), ho.imp id fun ⟨b, h1, h2, h3⟩ => ⟨b, h1, hs' h2 fun hb => ?_, h3⟩⟩
    cases ol with
    | nil => exact h3 rfl
    | cons a ol =>
      obtain ⟨z, rfl⟩ := hb.2 a (by simp)
      have := h.hol 0 (.bool z) rfl
      simp at this
  · obtain ⟨cl, hm⟩ := h.hm
    exact ⟨cl, hs mb _ hm fun l e => by cases e⟩
  · obtain ⟨n, sb, p, kb, v, h1, h2, h3, h4, h5, h6, h7⟩ := h.he i e hi
    exact ⟨n, sb, p, kb, v, h1, h2, h3, h4, hs' h5 (hi' _ _), h6, hs' h7 (hk _)⟩
  · rcases h.hol p a hp with h1 | ⟨kb, n, sb, v, i, e, h1, h2, h3, h4, h5, h6⟩
    · exact .inl h1
    · exact .inr ⟨kb, n, sb, v, i, e, h1, hs' h2 (hk _), h3, h4, h5, hs' h6 (hi' _ _)⟩

/-- The second loop: one key after the other is taken out. -/
theorem f3_second : ∀ (n : Nat) {H : AH} {S : LS} {i : Nat} {bd : Int} {es : List AEnt} {ol : List AV}, Mem H S → Tab S tb mb es bd ol → i < n → i ≤ 1000 → bd = i → es.length = i → ol.length < 100000 → (∀ m : Int, Has es m ↔ 1 ≤ m ∧ m ≤ i) →
    (∀ H', K (.ret (.bool true)) H') → f3_l6 R3 K n (.ptr tb 0) (i : Int) H
  | 0, _, _, i, _, _, _, _, _, h, _, _, _, _, _, _ => by omega
  | n + 1, H, S, i, bd, es, ol, hM, hT, hn, hi, hbd, hes, hol, hh, hK => by
    show f3_q6 R3 K (f3_l6 R3 K n) (f3_p4 R3 K) (.ptr tb 0) (i : Int) H
    unfold f3_q6
    simp only [iLt_d, io1]
    by_cases h0 : i = 0
    · subst h0
      rw [show (!decide (((0 : Nat) : Int) < 1)) = false by decide]
      simp only [bI_ff]
      show f3_q4 R3 K (.ptr tb 0) H
      unfold f3_q4
      simp only [r4, r5, r6, r7, r8, r9, r10, toldK, cR_ret, onB_b, bI_tt]
      refine f8_i hM hT ?_
      rw [hes]
      simp only [cR_ret, cI_z, iEq_d, io0, Int.natCast_zero, decide_true, bI_tt]
      refine f7_i hM hT ?_
      rw [hbd]
      simp only [cR_ret, cI_z, Int.natCast_zero, decide_true]
      exact hK _
    · rw [show (!decide ((i : Int) < 1)) = true by simp; omega]
      simp only [bI_tt, r4, r5, r6, r7, r8, r9, r10]
      refine f7_i hM hT ?_
      rw [hbd]
      simp only [cR_ret, cI_z, iEq_d, decide_true, Bool.not_true, bI_ff]
      obtain ⟨e, he, hk⟩ := (hh i).2 (by omega)
      obtain ⟨j, hj⟩ := List.getElem?_of_mem he
      show f9 (.ptr tb 0) (KI i) H _
      refine f9_i hM hT hj hk (by omega) (by omega) hol (by omega) fun H' S' ol' q1 q2 q3 q4 => ?_
      simp only [cR_ret, onB_b, Bool.not_true, bI_ff, isub]
      refine w0 (by omega) (by omega) ?_
      rw [if_pos (by omega)] at q2
      have e1 : (i : Int) - 1 = ((i - 1 : Nat) : Int) := by omega
      rw [e1] at q2 ⊢
      have hjl : j < es.length := (List.getElem?_eq_some_iff.1 hj).1
      refine f3_second n q1 q2 (by omega) (by omega) rfl (by rw [List.length_eraseIdx, if_pos hjl, hes]) (by omega) (fun m => ?_) hK
      constructor
      · rintro ⟨e', he', hk'⟩
        obtain ⟨j', hj'⟩ := List.getElem?_of_mem he'
        have h1 := get_erase hj'
        have h2 := (hh m).1 ⟨e', List.mem_of_getElem? h1, hk'⟩
        have h3 : m ≠ i := by
          rintro rfl
          exact get_erase_ne (hT.hu _ _ _ _ h1 hj (.inl (by rw [hk', hk])))
        omega
      · intro hm
        obtain ⟨e', he', hk'⟩ := (hh m).2 (by omega)
        obtain ⟨j', hj'⟩ := List.getElem?_of_mem he'
        obtain ⟨j2, hj2⟩ := erase_get hj' (i := j) (by
          rintro rfl
          rw [hj] at hj'
          cases hj'
          rw [hk] at hk'
          have := KI_inj hk'
          omega)
        exact ⟨e', List.mem_of_getElem? hj2, hk'⟩
end
end Go.Proofs.Ytlbojjiijfakaaa

namespace Go.Proofs.Ytlbojjiijfakaaa
open Go Go.X Go.Proofs.Ytlbojjiijfakaaa.G
set_option maxRecDepth 100000
set_option maxHeartbeats 400000
set_option linter.unusedVariables false
set_option linter.unusedSimpArgs false
variable {H : AH} {S : LS} {K : KF}

theorem BdOk.one {es : List AEnt} {a b : Int} (h : BdOk es a) (g : BdOk es b) : a = b := by
  obtain ⟨h0, h1, h2⟩ := h
  obtain ⟨g0, g1, g2⟩ := g
  rcases Int.lt_trichotomy a b with z | z | z
  · exact absurd (g1 (a + 1) (by omega) (by omega)) h2
  · exact z
  · exact absurd (h1 (b + 1) (by omega) (by omega)) g2

/-- The list of what is in says of each int whether it is there. -/
def Ins (S : LS) (ib k : Nat) (es : List AEnt) : Prop := ∃ ins, S.ob ib = .cells ins 0 ∧ Bools ins ∧ ins.length = k + 2 ∧ ∀ j : Nat, j < k + 2 → ∃ z, ins[j]? = some (.bool z) ∧ (z = true ↔ Has es j)

section
variable {tb mb ib k d : Nat}
/-- The innermost loop: up to the first int that is not in. -/
theorem f3_inner {es : List AEnt} {bd : Int} {at_ i : Nat} (i5 : Int → Int → AV → AV → Int → Int → AH → Prop) (hM : Mem H S) (hI : Ins S ib k es) (hB : BdOk es bd) (hm : ∀ m : Int, Has es m → m ≤ k) (hk : k ≤ 1000)
    (hK : f3_p8 R3 K i5 k d (.ptr tb 0) (.slice ib 0 (k + 2) (k + 2) 1 true) at_ i bd H) :
    ∀ (n b : Nat), k + 2 - b < n → b ≤ k → (∀ j : Int, 1 ≤ j → j ≤ b → Has es j) → f3_l9 R3 K i5 n k d (.ptr tb 0) (.slice ib 0 (k + 2) (k + 2) 1 true) at_ i b H
  | 0, b, h, _, _ => by omega
  | n + 1, b, h, hb, hall => by
    obtain ⟨ins, g1, g2, g3, g4⟩ := hI
    show f3_q9 R3 K (f3_l9 R3 K i5 n) (f3_p8 R3 K i5) k d (.ptr tb 0) (.slice ib 0 (k + 2) (k + 2) 1 true) at_ i b H
    unfold f3_q9
    simp only [iadd, io1]
    refine w0 (by omega) (by omega) ?_
    refine pIdx_i (by omega) (by omega) ?_
    obtain ⟨z, hz, hz2⟩ := g4 (b + 1) (by omega)
    refine pLoad_i hM g1 (v := .bool z) (by rw [← hz]; congr 1; omega) ?_
    simp only [onB_b]
    have e : (((b + 1 : Nat)) : Int) = (b : Int) + 1 := by omega
    refine bI_i (fun h1 => ?_) (fun h1 => ?_)
    · have h2 := hz2.1 h1
      have h3 := hm _ h2
      refine w0 (by omega) (by omega) ?_
      rw [← e]
      refine f3_inner i5 hM ⟨ins, g1, g2, g3, g4⟩ hB hm hk hK n (b + 1) (by omega) (by omega) fun j j1 j2 => ?_
      rcases Int.lt_or_le (b : Int) j with hlt | hle
      · have : j = ((b + 1 : Nat) : Int) := by omega
        rw [this]; exact h2
      · exact hall j j1 hle
    · have h2 : ¬ Has es ((b : Int) + 1) := fun hh => by
        rw [← e] at hh
        rw [hz2.2 hh] at h1; cases h1
      have : BdOk es b := ⟨by omega, hall, h2⟩
      rw [this.one hB]
      exact hK

theorem f3_first (hk0 : 0 < k) (hk : k ≤ 200) (hd : d ≤ 300) (hg : Nat.gcd d k = 1) (hK : ∀ H', K (.ret (.bool true)) H') : ∀ (n i : Nat) {H : AH} {S : LS} {es : List AEnt} {bd : Int} {ol : List AV}, Mem H S → Tab S tb mb es bd ol → BdOk es bd → es.length = i → ol.length = i → Ins S ib k es →
    (∀ m : Int, Has es m ↔ ∃ j, j < i ∧ m = ((j * d) % k : Nat) + 1) → i ≤ k → k - i < n → f3_l5 R3 K n k d (.ptr tb 0) (.slice ib 0 (k + 2) (k + 2) 1 true) ((i * d) % k : Nat) i H
  | 0, i, _, _, _, _, _, _, _, _, _, _, _, _, _, hn => by omega
  | n + 1, i, H, S, es, bd, ol, hM, hT, hB, hes, hol, hI, hh, hi, hn => by
    show f3_q5 R3 K (f3_l9 R3 K (f3_l5 R3 K n) NL) (f3_p3 R3 K) k d (.ptr tb 0) (.slice ib 0 (k + 2) (k + 2) 1 true) ((i * d) % k : Nat) i H
    unfold f3_q5
    simp only [iLt_d, r4, r5, r6, r7, r8, r9, r10, iadd, io1]
    have hat : (i * d) % k < k := Nat.mod_lt _ hk0
    have hle : ∀ m : Int, Has es m → 1 ≤ m ∧ m ≤ k := fun m hm => by
      obtain ⟨j, hj, rfl⟩ := (hh m).1 hm
      have := Nat.mod_lt (j * d) hk0
      omega
    have hbk : bd ≤ k := by
      rcases Int.lt_or_le (k : Int) bd with z | z
      · have := (hle bd (hB.2.1 bd (by omega) (Int.le_refl _))).2
        omega
      · exact z
    by_cases hik : i < k
    · rw [show decide ((i : Int) < k) = true by simp; omega]
      simp only [bI_tt]
      refine w0 (by omega) (by omega) ?_
      have hfresh : ¬ Has es ((((i * d) % k : Nat) : Int) + 1) := fun hm => by
        obtain ⟨j, hj, e⟩ := (hh _).1 hm
        exact mul_inj hg hj hik (by omega)
      show f6 (.ptr tb 0) (KI ((((i * d) % k : Nat) : Int) + 1)) (.str 1 120) H _
      refine f6_i hM hT (by simp) (by simp) hB (by omega) (by omega) (by omega) (by omega) hfresh fun H1 S1 es1 bd1 ol1 h1 hT1 hB1 hK1 hl1 ho1 hh1 => ?_
      simp only [cR_ret, onB_b, Bool.not_true, bI_ff]
      refine w0 (by omega) (by omega) ?_
      refine pIdx_i (by omega) (by omega) ?_
      obtain ⟨ins, g1, g2, g3, g4⟩ := hI
      have g1' := hK1 ib ins g1 g2
      have ei : 0 + Int.toNat ((((i * d) % k : Nat) : Int) + 1) * 1 = (i * d) % k + 1 := by omega
      rw [ei]
      refine pStore_i h1 g1' (by omega) (by omega) (by simp) fun H2 h2 => ?_
      have hB2 : Bools (ins.set ((i * d) % k + 1) (.bool true)) := ⟨by simpa using g2.1, fun a ha => by
        rcases List.mem_or_eq_of_mem_set ha with ha | rfl
        · exact g2.2 a ha
        · exact ⟨true, rfl⟩⟩
      have hT2 : Tab (S1.set ib (.cells (ins.set ((i * d) % k + 1) (.bool true)) 0)) tb mb es1 bd1 ol1 := hT1.stayB fun x o hx ho => by
        rw [LS.set_ob_ne, hx]
        rintro rfl
        rw [g1'] at hx
        exact ho ins hx.symm g2
      have hI2 : Ins (S1.set ib (.cells (ins.set ((i * d) % k + 1) (.bool true)) 0)) ib k es1 := by
        refine ⟨_, LS.set_ob_self _ _ _, hB2, by simpa using g3, fun j hj => ?_⟩
        by_cases e : j = (i * d) % k + 1
        · subst e
          refine ⟨true, by rw [List.getElem?_set_self (by omega)], iff_of_true rfl ((hh1 _).2 (.inr (by omega)))⟩
        · obtain ⟨z, z1, z2⟩ := g4 j hj
          refine ⟨z, by rw [List.getElem?_set_ne (Ne.symm e), z1], z2.trans ?_⟩
          rw [hh1]
          constructor
          · exact .inl
          · rintro (h | h)
            · exact h
            · omega
      have hhas2 : ∀ m : Int, Has es1 m ↔ ∃ j, j < i + 1 ∧ m = ((j * d) % k : Nat) + 1 := fun m => by
        rw [hh1, hh]
        constructor
        · rintro (⟨j, hj, e⟩ | e)
          · exact ⟨j, by omega, e⟩
          · exact ⟨i, by omega, e⟩
        · rintro ⟨j, hj, e⟩
          by_cases hji : j = i
          · subst hji; exact .inr e
          · exact .inl ⟨j, by omega, e⟩
      have hle1 : ∀ m : Int, Has es1 m → m ≤ k := fun m hm => by
        obtain ⟨j, hj, rfl⟩ := (hhas2 m).1 hm
        have := Nat.mod_lt (j * d) hk0
        omega
      have h0 := f3_inner (K := K) (tb := tb) (d := d) (at_ := (i * d) % k) (i := i) (bd := bd1) (f3_l5 R3 K n) h2 hI2 hB1 hle1 (by omega) ?_ NL 0 (by have : NL = 1000000 := rfl; omega) (by omega) (fun j j1 j2 => by omega)
      · exact h0
      show f3_q8 R3 K (f3_p7 R3 K (f3_l5 R3 K n)) k d (.ptr tb 0) (.slice ib 0 (k + 2) (k + 2) 1 true) ((i * d) % k : Nat) i bd1 H2
      unfold f3_q8
      simp only [r4, r5, r6, r7, r8, r9, r10]
      refine f7_i h2 hT2 ?_
      simp only [cR_ret, cI_z, iEq_d, decide_true, Bool.not_true, bI_ff]
      refine f8_i h2 hT2 ?_
      simp only [cR_ret, cI_z, iadd, io1]
      refine w0 (by omega) (by omega) ?_
      rw [show (!decide ((es1.length : Int) = (i : Int) + 1)) = false by simp; omega]
      simp only [bI_ff]
      refine w0 (by omega) (by omega) ?_
      rw [show decide ((k : Int) = 0) = false by simp; omega]
      simp only [bI_ff, forceI_s]
      show f3_q7 R3 K (f3_l5 R3 K n) k d (.ptr tb 0) (.slice ib 0 (k + 2) (k + 2) 1 true) _ i H2
      unfold f3_q7
      simp only [iadd, io1]
      refine w0 (by omega) (by omega) ?_
      have e1 : Int.tmod ((((i * d) % k : Nat) : Int) + (d : Int)) (k : Int) = ((((i + 1) * d) % k : Nat) : Int) := by
        have : Int.tmod ((((i * d) % k : Nat) : Int) + (d : Int)) (k : Int) = ((((i * d) % k + d) % k : Nat) : Int) := rfl
        rw [this, Nat.mod_add_mod, Nat.succ_mul]
      have e2 : (i : Int) + 1 = ((i + 1 : Nat) : Int) := rfl
      rw [e1, e2]
      exact f3_first hk0 hk hd hg hK n (i + 1) h2 hT2 hB1 (by omega) (by omega) hI2 hhas2 (by omega) (by omega)
    · rw [show decide ((i : Int) < k) = false by simp; omega]
      simp only [bI_ff]
      have hik' : i = k := by omega
      subst hik'
      have hall : ∀ m : Int, Has es m ↔ 1 ≤ m ∧ m ≤ i := fun m => by
        refine ⟨hle m, fun hm => ?_⟩
        obtain ⟨j, hj, e⟩ := mul_all (k := i) (d := d) (r := (m - 1).toNat) hg hk0 (by omega)
        exact (hh m).2 ⟨j, hj, by omega⟩
      have hbd : bd = i := by
        rcases Int.lt_or_le bd i with z | z
        · exact absurd ((hall (bd + 1)).2 (by have := hB.1; omega)) hB.2.2
        · omega
      show f3_l6 R3 K NL (.ptr tb 0) (i : Int) H
      exact f3_second NL hM hT (by have : NL = 1000000 := rfl; omega) (by omega) hbd hes (by omega) hall hK
end

theorem f3_gcd {k : Nat} (hk0 : 0 < k) (hk : k ≤ 200) (hM : Mem H S) (hK : ∀ H', K (.ret (.bool true)) H') : ∀ (n d : Nat), k + 2 - d < n → d ≤ k + 1 → f3_l2 R3 K n k d H
  | 0, d, h, _ => by omega
  | n + 1, d, h, hd => by
    show f3_q2 R3 K (f3_l2 R3 K n) (f3_p1 R3 K) k d H
    unfold f3_q2
    simp only [r4]
    refine f4_i (by omega) ?_
    simp only [cR_ret, cI_z, iEq_d, io1]
    by_cases hg : Nat.gcd d k = 1
    · rw [show (!decide (((Nat.gcd d k : Nat) : Int) = 1)) = false by simp; omega]
      simp only [bI_ff]
      show f3_q1 R3 K (f3_l5 R3 K NL) k d H
      unfold f3_q1
      simp only [r5]
      refine f5_i hM fun H1 S1 h1 _ hT1 => ?_
      simp only [cR_ret, pPEq_pn, Bool.not_true, onB_b, bI_ff, iadd, io2]
      refine w0 (by omega) (by omega) ?_
      have e : (k : Int) + 2 = Int.ofNat (k + 2) := rfl
      rw [e]
      refine pMakeS_i h1 rfl (by simp) (Nat.le_refl _) (by omega) (by omega) fun H2 h2 => ?_
      have hbo : Bools (repL (k + 2) [.bool false]) := ⟨by simp [repL], fun a ha => ⟨false, by simpa using repL_mem ha⟩⟩
      have hT2 : Tab (S1.push (.cells (repL (k + 2) [.bool false]) 0)) (S.n + 1) S.n [] 0 [] := hT1.push h1
      have hget : ∀ (n j : Nat), j < n → (repL n [AV.bool false])[j]? = some (.bool false) := fun n => by
        induction n with
        | zero => intro j h; omega
        | succ n ih =>
          intro j h
          cases j with
          | zero => rfl
          | succ j => exact ih j (by omega)
      have hno : ∀ m, ¬ Has [] m := fun m ⟨e, he, _⟩ => by simp at he
      have h0 := f3_first (K := K) (tb := S.n + 1) (mb := S.n) (ib := S1.n) (k := k) (d := d) hk0 hk (by omega) hg hK NL 0 h2 hT2 ⟨by omega, fun j j1 j2 => by omega, hno _⟩ rfl rfl
        ⟨_, LS.push_ob_self _ _, hbo, by rw [repL_length]; simp, fun j hj => ⟨false, hget _ _ hj, iff_of_false (by simp) (hno _)⟩⟩ (fun m => iff_of_false (hno m) fun ⟨j, hj, _⟩ => by omega) (by omega) (by have : NL = 1000000 := rfl; omega)
      simpa using h0
    · rw [show (!decide (((Nat.gcd d k : Nat) : Int) = 1)) = true by simp; omega]
      simp only [bI_tt, iadd]
      have hd' : d ≠ k + 1 := by
        rintro rfl
        apply hg
        rw [gcd_step]
        rcases Nat.lt_or_ge 1 k with h1 | h1
        · rw [Nat.add_mod_left, Nat.mod_eq_of_lt h1, Nat.gcd_one_right]
        · have : k = 1 := by omega
          subst this; rfl
      refine w0 (by omega) (by omega) ?_
      have e : (d : Int) + 1 = ((d + 1 : Nat) : Int) := rfl
      rw [e]
      exact f3_gcd hk0 hk hM hK n (d + 1) (by omega) (by omega)

theorem f3_i (a0 a1 : Int) (hM : Mem H S) (hK : ∀ H', K (.ret (.bool true)) H') : f3_r R3 a0 a1 H K := by
  show f3_q0 R3 K (f3_l2 R3 K NL) a0 a1 H
  unfold f3_q0
  refine w3 ?_
  rw [show iEq (.ofNat 200) 0 = false by decide]
  simp only [bI_ff, forceI_s]
  have e1 : ∃ z : Nat, Int.tmod (a0 % 18446744073709551616) (.ofNat 200) = z ∧ z < 200 := by
    have h := Int.emod_nonneg a0 (show (18446744073709551616 : Int) ≠ 0 by omega)
    rw [show Int.ofNat 200 = 200 from rfl, Int.tmod_eq_emod_of_nonneg h]
    exact ⟨(a0 % 18446744073709551616 % 200).toNat, by omega, by omega⟩
  obtain ⟨z, e1, hz⟩ := e1
  rw [e1]
  refine w0 (by omega) (by omega) ?_
  simp only [iadd, io1]
  refine w0 (by omega) (by omega) ?_
  refine w3 (w3 ?_)
  have ez : (1 + (z : Int)) % 18446744073709551616 = ((1 + z : Nat) : Int) := by omega
  rw [ez, show iEq ((1 + z : Nat) : Int) 0 = false by simp; omega]
  simp only [bI_ff, forceI_s]
  have e2 : ∃ y : Nat, Int.tmod (a1 % 18446744073709551616) ((1 + z : Nat) : Int) = y ∧ y < 1 + z := by
    have h := Int.emod_nonneg a1 (show (18446744073709551616 : Int) ≠ 0 by omega)
    rw [Int.tmod_eq_emod_of_nonneg h]
    have h2 := Int.emod_nonneg (a1 % 18446744073709551616) (show ((1 + z : Nat) : Int) ≠ 0 by omega)
    have h3 := Int.emod_lt_of_pos (a1 % 18446744073709551616) (show (0 : Int) < ((1 + z : Nat) : Int) by omega)
    exact ⟨(a1 % 18446744073709551616 % ((1 + z : Nat) : Int)).toNat, by omega, by omega⟩
  obtain ⟨y, e2, hy⟩ := e2
  rw [e2]
  refine w0 (by omega) (by omega) (w0 (by omega) (by omega) ?_)
  have e3 : (1 : Int) + (z : Int) = ((1 + z : Nat) : Int) := by omega
  have e4 : (1 : Int) + (y : Int) = ((1 + y : Nat) : Int) := by omega
  rw [e3, e4]
  exact f3_gcd (by omega) (by omega) hM hK NL (1 + y) (by have : NL = 1000000 := rfl; omega) (by omega)
end Go.Proofs.Ytlbojjiijfakaaa
