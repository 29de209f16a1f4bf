/- Lex of the program: what it gives. No condition: lemmas. -/
import Derived.Test.YthmjeojcciefcaaDoorLa
import Derived.Test.YthmjeojcciefcaaDoorMu
import Derived.Lib.Strings
import Derived.Lib.Slices
import Derived.Lib.Walk
import Derived.Lib.Bytealg
import Derived.Shelf.Strconv.ErrVarParseInt
import Derived.Ground.NamesProg
import Derived.Lib.AtoiErrMem
set_option linter.unusedVariables false
set_option linter.unusedSimpArgs false
namespace Go.Proofs.YthmjeojcciefcaaDoor
open Go Go.X Go.Proofs
open Go.Shelf
set_option maxRecDepth 100000
set_option maxHeartbeats 1000000
theorem sl_indexByte (s : ByteArray) (c : Int) (w : World) :
    Calls Tryd.prog 33 #[.string s, .int .u8 c] w fun e w' => e = .returned (.int .i64 (Lib.indexByte s.data.toList c.toNat.toUInt8)) ∧ w' = w := by
  go_enter Tryd.func33, Tryd.ntmps33
  go_wp2
  rw [run_callFunc_extern Tryd.func42 (by kernel_rfl) (by kernel_rfl) (by kernel_rfl) (e := Extern.BytealgIndexByte.indexByte) (by kernel_rfl), Lib.run_indexByteString]
  simp only [Result.andThen]
  rw [Oper.upon_value]
  go_wp2
  go_ret
  exact ⟨rfl, rfl⟩
theorem st_indexByte (s : ByteArray) (c : Int) (w : World) :
    Calls Tryd.prog 16 #[.string s, .int .u8 c] w fun e w' => e = .returned (.int .i64 (Lib.indexByte s.data.toList c.toNat.toUInt8)) ∧ w' = w := by
  go_enter Tryd.func16, Tryd.ntmps16
  go_wp2_with (go_at_call 33; refine (sl_indexByte _ _ _).mono ?_; rintro e w' ⟨rfl, rfl⟩)
  go_ret
  exact ⟨rfl, rfl⟩
/-- strings.IndexByte. -/
def ixK : AV → Int → AH → KF → Prop := fun s c H K => ∃ l b, s = strA l ∧ c = ((b : Nat) : Int) ∧ B8 l ∧ b < 256 ∧ ∀ z : Int, (0 ≤ z ↔ b ∈ l) → K (.ret (.int 0 z)) H
theorem indexByte_nn : ∀ (l : List UInt8) (c : UInt8), 0 ≤ Lib.indexByte l c ↔ c ∈ l
  | [], c => by simp [Lib.indexByte]
  | a :: l, c => by
    have ih := indexByte_nn l c
    have hg := Lib.indexByte_ge l c
    simp only [Lib.indexByte, List.mem_cons]
    by_cases h : a = c
    · subst h
      simp
    · rw [if_neg (by simpa using h)]
      by_cases h2 : Lib.indexByte l c = -1
      · rw [if_pos (by simpa using h2)]
        constructor
        · intro g; omega
        · rintro (g | g)
          · exact absurd g.symm h
          · have := ih.2 g; omega
      · rw [if_neg (by simpa using h2)]
        constructor
        · intro g; exact .inr (ih.1 (by omega))
        · rintro (g | g)
          · exact absurd g.symm h
          · have := ih.2 g; omega
theorem mem_toU8 {l : List Nat} (h8 : B8 l) {b : Nat} (hb : b < 256) : UInt8.ofNat b ∈ toU8 l ↔ b ∈ l := by
  unfold toU8
  rw [List.mem_map]
  constructor
  · rintro ⟨c, hc, e⟩
    have h1 := h8 c hc
    have := congrArg UInt8.toNat e
    simp only [UInt8.toNat_ofNat'] at this
    have e2 : c = b := by omega
    rw [← e2]; exact hc
  · intro h
    exact ⟨b, h, rfl⟩
theorem ix_ok : FunOk Tryd.prog 16 (fnX [.a, .i 1] ixK) := FunOk.of_below fun args H K hf => by
  match args, hf with
  | [a, .int 1 c], hf =>
    obtain ⟨l, b, e1, e2, h8, hb, hk⟩ : ixK a c H K := hf
    subst e1; subst e2
    refine ⟨_, hk (Lib.indexByte (toU8 l) (UInt8.ofNat b)) ((indexByte_nn _ _).trans (mem_toU8 h8 hb)), fun f w vs _ _ hv => ?_⟩
    obtain ⟨v1, r1, e1, g1, hv⟩ := hv.cons_inv
    obtain ⟨v2, r2, rfl, g2, hv⟩ := hv.cons_inv
    obtain rfl := hv.nil_inv
    obtain rfl := g1.strA
    obtain rfl := g2.intA
    have hvs : vs = #[.string (toBA l.length (num l)), .int .u8 ((b : Nat) : Int)] := by cases vs; simp_all [kd]
    subst hvs
    refine (st_indexByte _ _ w).mono fun e w' ⟨he, hw⟩ => ?_
    subst hw
    refine ⟨⟨_, he, ?_⟩, RowKit.Below.refl _ _⟩
    rw [toBA_list h8]
    exact .int 0 _
def Tryd.laysPI_ren:Go.Shelf.Ren:=⟨fun|174=>21|247=>35|245=>36|287=>43|279=>44|280=>45|281=>46|282=>47|321=>50|322=>51|316=>52|171=>54|205=>53|243=>57|246=>58|283=>59|284=>60|285=>61|286=>62|129=>64|317=>63|318=>65|319=>66|320=>67|337=>68|338=>69|n=>n,fun|9=>9|3=>3|2=>2|75=>36|85=>40|4=>4|167=>61|5=>5|53=>55|175=>62|46=>28|168=>64|37=>52|0=>0|210=>75|21=>21|127=>89|145=>92|143=>90|171=>96|173=>99|212=>103|51=>70|20=>20|213=>104|232=>108|233=>109|80=>110|n=>n,fun|15=>3|16=>4|17=>5|18=>6|19=>7|n=>n⟩
open Tryd in
theorem Tryd.laysPI:Go.Proofs.LaysC.n174 prog laysPI_ren:=⟨⟨⟨by kernel_rfl,func64.trans (by kernel_rfl),func54.trans (by kernel_rfl),func21.trans (by kernel_rfl),func53.trans (by kernel_rfl),func57.trans (by kernel_rfl),func36.trans (by kernel_rfl),func58.trans (by kernel_rfl),func35.trans (by kernel_rfl),func44.trans (by kernel_rfl),func45.trans (by kernel_rfl),func46.trans (by kernel_rfl),func47.trans (by kernel_rfl),func59.trans (by kernel_rfl),func60.trans (by kernel_rfl),func61.trans (by kernel_rfl),func62.trans (by kernel_rfl),func43.trans (by kernel_rfl),func52.trans (by kernel_rfl),func63.trans (by kernel_rfl),func65.trans (by kernel_rfl),func66.trans (by kernel_rfl),func67.trans (by kernel_rfl),func50.trans (by kernel_rfl),func51.trans (by kernel_rfl),func68.trans (by kernel_rfl),func69.trans (by kernel_rfl),underlying0,isAgg0,sizeOf0,zeroValue0,underlying2,isAgg2,sizeOf2,zeroValue2,underlying3,isAgg3,sizeOf3,zeroValue3,underlying4,isAgg4,sizeOf4,zeroValue4,underlying5,isAgg5,sizeOf5,zeroValue5,underlying9,isAgg9,sizeOf9,zeroValue9,underlying20,isAgg20,sizeOf20,zeroValue20,underlying21,isAgg21,sizeOf21,zeroValue21,underlying52,isAgg52,sizeOf52,zeroValue52,underlying28,isAgg28,sizeOf28,zeroValue28,underlying70,isAgg70,sizeOf70,zeroValue70,underlying55,isAgg55,sizeOf55,zeroValue55,underlying36,isAgg36,sizeOf36,zeroValue36,underlying40,isAgg40,sizeOf40,zeroValue40,underlying89,isAgg89,sizeOf89,zeroValue89,underlying90,isAgg90,sizeOf90,zeroValue90,underlying92,isAgg92,sizeOf92,zeroValue92,underlying61,isAgg61,sizeOf61,zeroValue61,underlying64,isAgg64,sizeOf64,zeroValue64,underlying96,isAgg96,sizeOf96,zeroValue96,underlying99,isAgg99,sizeOf99,zeroValue99,underlying62,isAgg62,sizeOf62,zeroValue62,underlying75,isAgg75,sizeOf75,zeroValue75,underlying103,isAgg103,sizeOf103,zeroValue103,underlying104,isAgg104,sizeOf104,underlying108,isAgg108,sizeOf108,zeroValue108,underlying109,isAgg109,sizeOf109,zeroValue109,by kernel_rfl,by kernel_rfl,by kernel_rfl,by kernel_rfl,by kernel_rfl⟩,underlying110,isAgg110,sizeOf110,zeroValue110,by kernel_rfl,by kernel_rfl,by kernel_rfl,by kernel_rfl,by kernel_rfl,by kernel_rfl,by kernel_rfl,by kernel_rfl,by kernel_rfl,by kernel_rfl,by kernel_rfl,by kernel_rfl,by kernel_rfl,by kernel_rfl,by kernel_rfl,by kernel_rfl,by kernel_rfl,by kernel_rfl,by kernel_rfl,by kernel_rfl,by kernel_rfl,by kernel_rfl,by kernel_rfl,by kernel_rfl,by kernel_rfl,by kernel_rfl,by kernel_rfl,by kernel_rfl,by kernel_rfl,by kernel_rfl,by kernel_rfl,by kernel_rfl⟩,by kernel_rfl,by kernel_rfl,by kernel_rfl,by kernel_rfl,by kernel_rfl,by kernel_rfl,by kernel_rfl,by kernel_rfl,by kernel_rfl,by kernel_rfl,by kernel_rfl,by kernel_rfl,by kernel_rfl,by kernel_rfl,by kernel_rfl,by kernel_rfl,by kernel_rfl,by kernel_rfl,by kernel_rfl,by kernel_rfl,by kernel_rfl,by kernel_rfl,by kernel_rfl,by kernel_rfl,by kernel_rfl,by kernel_rfl,by kernel_rfl,by kernel_rfl⟩
def gl2 : List (Option (List AV)) := [some tb0, none, none, some [.iface 90 .pois], some [.iface 90 .pois], none, none, none, none]
theorem gl2_plain : ∀ z, some z ∈ gl2 → ∀ a ∈ z, plA a = true := by
  intro z hz a ha
  simp only [gl2, List.mem_cons, Option.some.injEq, reduceCtorEq, List.not_mem_nil, or_false, false_or] at hz
  rcases hz with rfl | rfl | rfl
  · obtain ⟨x, _, rfl⟩ := List.mem_map.1 ha
    rfl
  · simp only [List.mem_singleton] at ha; subst ha; rfl
  · simp only [List.mem_singleton] at ha; subst ha; rfl
theorem gl2_gl {S : LS} (h : TabS gl2 S) : TabS gl S := fun b z hb => by
  match b, hb with
  | 0, hb => exact h 0 z hb
  | 1, hb => cases hb
  | 2, hb => cases hb
  | 3, hb => cases hb
  | 4, hb => cases hb
  | 5, hb => cases hb
  | 6, hb => cases hb
  | 7, hb => cases hb
  | 8, hb => cases hb
  | b + 9, hb => cases hb
theorem cell_of {W : World} (h : TabsIn gl2 W) {b : Nat} (hb : gl2[b]? = some (some [.iface 90 .pois])) : ∃ u, W.cell? ⟨b, 0, none⟩ = some (.iface 90 u) := by
  obtain ⟨cur, e, lo, hi, h1, h2, h3⟩ := h b _ hb
  obtain ⟨_, v, h4, h5⟩ := h3 0 _ rfl
  cases h5 with
  | iface _ _ u _ =>
    refine ⟨u, ?_⟩
    have h4' : cur[0 + 0]? = some (.iface 90 u) := h4
    have h1' : W.heap[b]? = some (.cells cur e (lo, hi)) := h1
    simp only [World.cell?, h1']
    exact h4'
/-- strconv.ParseInt of a run that begins with a digit, at base 10, 64 bits. -/
def piK : AV → Int → Int → AH → KF → Prop := fun s b n H K => ∃ c r, s = strA (c :: r) ∧ b = 10 ∧ n = 64 ∧ B8 (c :: r) ∧ (c :: r).length ≤ 16384 ∧ DP c ∧ (∃ S, Mem H S ∧ TabS gl2 S) ∧
  (match numT (c :: r) with | some v => K (.ret (.tup [.int 0 (v : Int), .niface])) H | none => ∀ z t, K (.ret (.tup [.int 0 z, .iface t .pois])) H)
theorem pi_ok : FunOk Tryd.prog 21 (fnX [.a, .i 0, .i 0] piK) := FunOk.of_below fun args H K hf => by
  match args, hf with
  | [a, .int 0 b, .int 0 n], hf =>
    obtain ⟨c, r, e1, e2, e3, h8, hlen, hd, ⟨S, hM, hT⟩, hk⟩ : piK a b n H K := hf
    subst e1; subst e2; subst e3
    have hsz : (toBA (c :: r).length (num (c :: r))).size = (c :: r).length := toBA_size _ _
    have hargs : ∀ {f : Emb} {vs : Array Value}, VL f [strA (c :: r), .int 0 10, .int 0 64] vs.toList → vs = #[.string (toBA (c :: r).length (num (c :: r))), .int .i64 10, .int .i64 64] := fun {f vs} hv => by
      obtain ⟨v1, r1, e1, g1, hv⟩ := hv.cons_inv
      obtain ⟨v2, r2, rfl, g2, hv⟩ := hv.cons_inv
      obtain ⟨v3, r3, rfl, g3, hv⟩ := hv.cons_inv
      obtain rfl := hv.nil_inv
      obtain rfl := g1.strA
      obtain rfl := g2.intA
      obtain rfl := g3.intA
      cases vs; simp_all [kd]
    have hl := toBA_list h8
    cases e : numT (c :: r) with
    | some v =>
      rw [e] at hk
      refine ⟨_, hk, fun f w vs _ _ hv => ?_⟩
      have hvs := hargs hv
      subst hvs
      refine (Any.strconv_ParseInt_10_at64_ok Tryd.laysPI (toBA (c :: r).length (num (c :: r))) (by rw [hsz]; omega) (v : Int) (by rw [hl]; exact parseInt_ok h8 hd e) w).mono fun e w' ⟨he, hw⟩ => ?_
      refine ⟨⟨_, he, .tup _ [_, _] (.cons _ _ _ _ (.int 0 _) (.cons _ _ _ _ .niface .nil))⟩, ?_⟩
      rcases hw with rfl | ⟨t, rfl⟩
      · exact RowKit.Below.refl _ _
      · exact Lib.bytesWorld_below _ _ _
    | none =>
      rw [e] at hk
      have hno := parseInt_no h8 hd e
      cases hp : Lib.parseIntB 64 (toU8 (c :: r)) with
      | ok z => exact absurd hp (hno z)
      | range =>
        refine ⟨_, hk (Lib.intSat 64 (toU8 (c :: r))) 64, fun f w vs hr hg hv => ?_⟩
        have hvs := hargs hv
        subst hvs
        obtain ⟨u, hu⟩ := cell_of (tabsIn_of gl2_plain hM hT hr (fun g hgl => hg g hgl)) (b := 4) rfl
        refine (Any.strconv_ParseInt_10_at64_range Tryd.laysPI (toBA (c :: r).length (num (c :: r))) (by rw [hsz]; omega) (by rw [hl]; exact hp) _ w hu (.inr ⟨_, _, rfl⟩)).mono fun e w' ⟨N, he, _, _, hb⟩ => ?_
        rw [hl] at he
        exact ⟨⟨_, he, .tup _ [_, _] (.cons _ _ _ _ (.int 0 _) (.cons _ _ _ _ (.iface _ _ _ (.pois _)) .nil))⟩, hb⟩
      | _ =>
        refine ⟨_, hk 0 64, fun f w vs hr hg hv => ?_⟩
        have hvs := hargs hv
        subst hvs
        obtain ⟨u, hu⟩ := cell_of (tabsIn_of gl2_plain hM hT hr (fun g hgl => hg g hgl)) (b := 3) rfl
        refine (Any.strconv_ParseInt_10_at64_syntax Tryd.laysPI (toBA (c :: r).length (num (c :: r))) (by rw [hsz]; omega) (by rw [hl]; exact hp) _ w hu (.inr ⟨_, _, rfl⟩)).mono fun e w' ⟨N, he, _, _, hb⟩ => ?_
        exact ⟨⟨_, he, .tup _ [_, _] (.cons _ _ _ _ (.int 0 _) (.cons _ _ _ _ (.iface _ _ _ (.pois _)) .nil))⟩, hb⟩
end Go.Proofs.YthmjeojcciefcaaDoor

namespace Go.X
theorem b8_lit {l : List Nat} (h : (l.all fun c => Nat.blt c 256) = true) : B8 l := fun c hc => by
  have := List.all_eq_true.1 h c hc
  simpa using this
theorem sgn_two {l m : List Nat} (h1 : l.take 2 = m) (h2 : m ∈ twos) : sgnL l = 2 := by
  match l with
  | [] => subst h1; simp [twos] at h2
  | [a] => subst h1; simp [twos] at h2
  | a :: b :: r =>
    have e : [a, b] ∈ twos := by
      have : (a :: b :: r).take 2 = [a, b] := rfl
      rw [this] at h1; rw [h1]; exact h2
    simp only [sgnL]
    rw [if_pos e]
theorem sgn_one {a : Nat} {l : List Nat} (h : ∀ m ∈ twos, (a :: l).take 2 ≠ m) : sgnL (a :: l) = if a ∈ ones then 1 else 0 := by
  cases l with
  | nil => rfl
  | cons b r =>
    have e : [a, b] ∉ twos := fun g => h _ g rfl
    simp only [sgnL]
    rw [if_neg e]
theorem twos_len : ∀ m ∈ twos, m.length = 2 := by decide
theorem or32 : ∀ c, c < 256 → ((c ||| 32) < 97 ∨ 102 < (c ||| 32)) ∨ (97 ≤ c ∧ c ≤ 102 ∨ 65 ≤ c ∧ c ≤ 70) := by decide +kernel
theorem or32' : ∀ c, c < 256 → (97 ≤ c ∧ c ≤ 102 ∨ 65 ≤ c ∧ c ≤ 70) → ¬ ((c ||| 32) < 97) ∧ ¬ (102 < (c ||| 32)) := by decide +kernel
theorem or32lt : ∀ c, c < 256 → (c ||| 32) < 256 := by decide +kernel
end Go.X
namespace Go.Proofs.YthmjeojcciefcaaDoor
open Go Go.X Go.Proofs.YthmjeojcciefcaaDoor.G
set_option maxRecDepth 100000
set_option maxHeartbeats 1600000
set_option linter.unusedVariables false
set_option linter.unusedSimpArgs false
variable {H : AH} {S : LS} {K : KF}
theorem f17_A {l m : List Nat} (h1 : B8 l) (h2 : B8 m) (hk : K (.ret (.bool (decide (l.take m.length = m)))) H) : f17 (strA l) (strA m) H K := by
  have r17 : f17_rr = f34 := rfl
  show f17_q0 f17_rr K (strA l) (strA m) H
  unfold f17_q0
  rw [r17]
  show f34_q0 f34_rr _ (strA l) (strA m) H
  unfold f34_q0
  simp only [sLen_A, cI_z, iLt_d]
  by_cases g : (l.length : Int) < (m.length : Int)
  · rw [decide_eq_true g]
    simp only [Bool.not_true, bI_ff, cR_ret, onB_b]
    have e : l.take m.length ≠ m := fun e => by
      have := congrArg List.length e
      simp at this
      omega
    rw [decide_eq_false e] at hk
    exact hk
  · rw [decide_eq_false g]
    simp only [Bool.not_false, bI_tt, sLen_A, cI_z]
    refine take_A h1 (by omega) ?_
    refine sEq_A (h1.take _) h2 ?_
    simp only [onB_b, cR_ret]
    exact hk
noncomputable def g20 : AV → AH → KF → Prop := f20_r (ixK, f17)
theorem g20_ok : FunOk Tryd.prog 20 (fnX [.a] g20) := f20_rok _ (CTblOk.cons ix_ok (CTblOk.cons f17_ok CTblOk.nil))
theorem f20_loop {l : List Nat} (h8 : B8 l) {b : Nat} (hM : Mem H S) (hb : S.ob b = .cells (twos.map strA) 0) (hk : K (.ret (strA (l.take (sgnL l)))) H) :
    ∀ (q i : Nat), i ≤ 6 → 6 - i < q → (∀ j m, j < i → twos[j]? = some m → l.take 2 ≠ m) → f20_l2 (ixK, f17) K q (strA l) (.slice b 0 6 6 1 true) 6 i H
  | 0, _, _, h, _ => by omega
  | q + 1, i, hi, hq, hn => by
    show f20_q2 (ixK, f17) K (f20_l2 (ixK, f17) K q) (f20_q1 (ixK, f17) K) (strA l) (.slice b 0 6 6 1 true) 6 i H
    unfold f20_q2
    rw [iLt_d]
    refine bI_dec (fun g => ?_) (fun g => ?_)
    · have hi6 : i < twos.length := by show i < 6; omega
      obtain ⟨m, hm⟩ : ∃ m, twos[i]? = some m := ⟨_, List.getElem?_eq_getElem hi6⟩
      have hmm := List.mem_of_getElem? hm
      have hl2 := twos_len m hmm
      have hm8 : B8 m := b8_lit ((by decide : ∀ m ∈ twos, (m.all fun c => Nat.blt c 256) = true) m hmm)
      refine pIdx_i (by omega) (by omega) ?_
      rw [Int.toNat_natCast, Nat.mul_one, Nat.zero_add]
      refine pLoad_i hM hb (v := strA m) (by rw [List.getElem?_map, hm]; rfl) ?_
      refine f17_A h8 hm8 ?_
      simp only [cR_ret, onB_b]
      rw [hl2]
      refine bI_dec (fun g2 => ?_) (fun g2 => ?_)
      · rw [sgn_two g2 hmm, g2] at hk
        exact hk
      · simp only [iadd, io1]
        refine w0 (by omega) (by omega) ?_
        refine f20_loop h8 hM hb hk q (i + 1) (by omega) (by omega) fun j m' hj hm' => ?_
        by_cases e : j = i
        · subst e
          rw [hm] at hm'
          cases hm'
          exact g2
        · exact hn j m' (by omega) hm'
    · have hno : ∀ m ∈ twos, l.take 2 ≠ m := fun m hm => by
        obtain ⟨j, hj, e⟩ := List.mem_iff_getElem.1 hm
        exact hn j m (by have : j < 6 := hj; omega) (by rw [List.getElem?_eq_getElem hj, e])
      unfold f20_q1
      cases l with
      | nil => exact hk
      | cons a r =>
        refine sNe_A (m := []) h8 B8.nil ?_
        simp only [onB_b]
        rw [decide_eq_false (by simp)]
        simp only [Bool.not_false, bI_tt]
        refine sIdx_A (i := 0) h8 rfl ?_
        simp only [cI_z]
        refine ⟨ones, a, rfl, rfl, b8_lit (by decide), h8.hd, fun z hz => ?_⟩
        simp only [cR_ret, cI_z, iLt_d]
        rw [sgn_one hno] at hk
        have e0 : Int.ofNat 0 = 0 := rfl
        rw [e0]
        by_cases g3 : a ∈ ones
        · have := hz.2 g3
          rw [decide_eq_false (by omega)]
          simp only [Bool.not_false, bI_tt]
          refine take_A (i := 1) h8 (by simp) ?_
          rw [if_pos g3] at hk
          exact hk
        · have : ¬ 0 ≤ z := fun g4 => g3 (hz.1 g4)
          rw [decide_eq_true (by omega)]
          simp only [Bool.not_true, bI_ff]
          rw [if_neg g3] at hk
          exact hk
theorem twos_cells : ([.str 2 11822, .str 2 15677, .str 2 15742, .str 2 15676, .str 2 15678, .str 2 12079] : List AV) = twos.map strA := by rfl
theorem g20_i {l : List Nat} (h8 : B8 l) (hM : Mem H S) (hK : ∀ H' S', Mem H' S' → Ext S S' → K (.ret (strA (l.take (sgnL l)))) H') : g20 (strA l) H K := by
  show f20_q0 (ixK, f17) K (f20_l2 (ixK, f17) K G.NL) (strA l) H
  unfold f20_q0
  rw [twos_cells]
  refine pNewS_i hM rfl (fun a ha => ?_) fun H1 m1 => ?_
  · obtain ⟨x, _, rfl⟩ := List.mem_map.1 ha
    rfl
  · show cI 0 (.int 0 (.ofNat 6)) fun z4 => f20_l2 (ixK, f17) K G.NL (strA l) (.slice S.n 0 6 6 1 true) z4 (.ofNat 0) H1
    rw [cI_z]
    exact f20_loop h8 m1 (LS.push_ob_self _ _) (hK H1 _ m1 (Ext.push _ _)) G.NL 0 (by omega) (by have : G.NL = 1000000 := rfl; omega) fun j m hj => by omega
noncomputable def g37 : AV → AH → KF → Prop := f37_r (f19, puK)
theorem g37_ok : FunOk Tryd.prog 37 (fnX [.a] g37) := f37_rok _ (CTblOk.cons f19_ok (CTblOk.cons pu_ok CTblOk.nil))
/-- Is it a hexadecimal digit? -/
theorem hexv_some {c : Nat} : (∃ v, hexv c = some v) ↔ DP c ∨ (97 ≤ c ∧ c ≤ 102) ∨ (65 ≤ c ∧ c ≤ 70) := by
  unfold hexv
  constructor
  · rintro ⟨v, h⟩
    split at h
    · rename_i g; exact .inl g
    split at h
    · rename_i g; exact .inr (.inl g)
    split at h
    · rename_i g; exact .inr (.inr g)
    · cases h
  · intro h
    split
    · exact ⟨_, rfl⟩
    split
    · exact ⟨_, rfl⟩
    split
    · exact ⟨_, rfl⟩
    · rcases h with g | g | g <;> contradiction
/-- One hexadecimal digit tested. -/
theorem hex_step {l : List Nat} (h8 : B8 l) {i c : Nat} (hi : l[i]? = some c) {x y : Prop} (h1 : (∃ v, hexv c = some v) → y) (h2 : (¬ ∃ v, hexv c = some v) → x) {K' : KF} (R2 : AV → Int → Int → AH → KF → Prop) :
    f19 (c : Int) H fun o3 H4 => cR K' o3 H4 fun v5 => onB v5 fun z6 => bI (!z6) (sIdx (strA l) (.int 0 (i : Int)) fun v7 => cI 1 v7 fun z8 => forceN (toU 1 z8) fun u9 => forceN (toU 1 (.ofNat 32)) fun u10 => wrapK 1 (.ofNat (Nat.lor u9 u10)) fun z11 => bI (iLt z11 (.ofNat 97)) x
      (sIdx (strA l) (.int 0 (i : Int)) fun v12 => cI 1 v12 fun z13 => forceN (toU 1 z13) fun u14 => forceN (toU 1 (.ofNat 32)) fun u15 => wrapK 1 (.ofNat (Nat.lor u14 u15)) fun z16 => bI (iLt (.ofNat 102) z16) x y)) y := by
  have hc : c < 256 := h8 c (List.mem_of_getElem? hi)
  have hlt := or32lt c hc
  refine f19_i fun b hb => ?_
  simp only [cR_ret, onB_b]
  cases b with
  | true =>
    simp only [Bool.not_true, bI_ff]
    exact h1 (hexv_some.2 (.inl (hb.1 rfl)))
  | false =>
    have hd : ¬ DP c := fun g => by have := hb.2 g; cases this
    simp only [Bool.not_false, bI_tt]
    refine sIdx_A h8 hi ?_
    simp only [cI_z]
    rw [forceN_eq, forceN_eq]
    have e : ∀ k : Int → Prop, k ((c ||| 32 : Nat) : Int) → wrapK 1 (.ofNat (Nat.lor (toU 1 (c : Int)) (toU 1 (.ofNat 32)))) k := fun k hk => by
      refine wrapK_i (z' := ((c ||| 32 : Nat) : Int)) ?_ hk
      show (kd 1).wrap ((c ||| 32 : Nat) : Int) = _
      rw [wrap1]; omega
    refine e _ ?_
    have e97 : Int.ofNat 97 = 97 := rfl
    have e102 : Int.ofNat 102 = 102 := rfl
    rw [iLt_d, e97]
    have o1 := or32 c hc
    have o2 := or32' c hc
    refine bI_dec (fun g => h2 fun g2 => ?_) (fun g => ?_)
    · rcases hexv_some.1 g2 with g3 | g3
      · exact hd g3
      · have := o2 g3; omega
    · refine sIdx_A h8 hi ?_
      simp only [cI_z]
      rw [forceN_eq, forceN_eq]
      refine e _ ?_
      rw [iLt_d, e102]
      refine bI_dec (fun g4 => h2 fun g2 => ?_) (fun g4 => h1 (hexv_some.2 (.inr ?_)))
      · rcases hexv_some.1 g2 with g3 | g3
        · exact hd g3
        · have := o2 g3; omega
      · rcases o1 with g5 | g5
        · omega
        · exact g5
theorem hex_no {a b : Nat} {r : List Nat} (h : (¬ ∃ v, hexv a = some v) ∨ (¬ ∃ v, hexv b = some v)) : esc (120 :: a :: b :: r) = none := by
  simp only [esc]
  rw [if_neg (by omega), if_neg (by omega), if_neg (by omega), if_pos trivial]
  split
  · rename_i x y hx hy
    rcases h with g | g
    · exact absurd ⟨_, hx⟩ g
    · exact absurd ⟨_, hy⟩ g
  · rfl
theorem r37a : ((f19, puK) : f37_R).1 = f19 := rfl
theorem r37b : ((f19, puK) : f37_R).2 = puK := rfl
theorem f37_loop {l : List Nat} {a b : Nat} {r : List Nat} (el : l = 120 :: a :: b :: r) (h8 : B8 l) (h1 : ∀ v k, esc l = some (v, k) → K (.ret (.tup [.int 1 (v : Int), .int 0 (k : Int)])) H) (h2 : esc l = none → K (.ret (.tup [.int 1 0, .int 0 0])) H) :
    ∀ (q i : Nat), 1 ≤ i → i ≤ 3 → 3 - i < q → (∀ j c, 1 ≤ j → j < i → l[j]? = some c → ∃ v, hexv c = some v) → f37_l4 (f19, puK) K q (strA l) i H
  | 0, _, _, _, h, _ => by omega
  | q + 1, i, hi1, hi, hq, hn => by
    show f37_q4 (f19, puK) K (f37_q5 (f19, puK) K (f37_l4 (f19, puK) K q)) (f37_q3 (f19, puK) K) (strA l) (i : Int) H
    unfold f37_q4
    have e3 : Int.ofNat 3 = ((3 : Nat) : Int) := rfl
    rw [iLt_d, r37a, e3]
    refine bI_dec (fun g => ?_) (fun g => ?_)
    · have hil : i < l.length := by rw [el]; simp; omega
      obtain ⟨c, hc⟩ : ∃ c, l[i]? = some c := ⟨_, List.getElem?_eq_getElem hil⟩
      refine sIdx_A h8 hc ?_
      simp only [cI_z]
      have next : (∃ v, hexv c = some v) → f37_q5 (f19, puK) K (f37_l4 (f19, puK) K q) (strA l) (i : Int) H := fun hx => by
        unfold f37_q5
        simp only [iadd, io1]
        refine w0 (by omega) (by omega) ?_
        refine f37_loop el h8 h1 h2 q (i + 1) (by omega) (by omega) (by omega) fun j d h3 h4 h5 => ?_
        by_cases e : j = i
        · subst e
          rw [hc] at h5
          cases h5
          exact hx
        · exact hn j d h3 (by omega) h5
      refine hex_step (i := i) h8 hc next (fun g2 => h2 ?_) puK
      rw [el] at hc ⊢
      have hi12 : i = 1 ∨ i = 2 := by omega
      rcases hi12 with rfl | rfl
      · have e : a = c := by simpa using hc
        subst e
        exact hex_no (.inl g2)
      · have e : b = c := by simpa using hc
        subst e
        exact hex_no (.inr g2)
    · have ei : i = 3 := by omega
      obtain ⟨x, hx⟩ := hn 1 a (by omega) (by omega) (by rw [el]; rfl)
      obtain ⟨y, hy⟩ := hn 2 b (by omega) (by omega) (by rw [el]; rfl)
      unfold f37_q3
      rw [r37b]
      refine sub_A (i := 1) (j := 3) h8 (by omega) (by rw [el]; simp) ?_
      refine ⟨a, b, x, y, by rw [el]; rfl, rfl, rfl, hx, hy, ?_⟩
      have hx16 := hexv_lt hx
      have hy16 := hexv_lt hy
      simp only [cR_ret, onTup_t, nthK_0, nthK_s, cI_z]
      refine wrapK_i (z := ((16 * x + y : Nat) : Int)) (z' := ((16 * x + y : Nat) : Int)) (by rw [wrap1]; omega) ?_
      refine h1 _ 3 ?_
      rw [el]
      simp only [esc]
      rw [if_neg (by omega), if_neg (by omega), if_neg (by omega), if_pos trivial, hx, hy]
theorem g37_i {l : List Nat} (h8 : B8 l) (h1 : ∀ v k, esc l = some (v, k) → K (.ret (.tup [.int 1 (v : Int), .int 0 (k : Int)])) H) (h2 : esc l = none → K (.ret (.tup [.int 1 0, .int 0 0])) H) : g37 (strA l) H K := by
  show f37_q0 (f19, puK) K (f37_q2 (f19, puK) K (f37_l4 (f19, puK) K G.NL) (f37_q1 (f19, puK) K)) (strA l) H
  unfold f37_q0
  refine sEq_A (m := []) h8 B8.nil ?_
  simp only [onB_b]
  cases l with
  | nil => exact h2 rfl
  | cons c l =>
    rw [decide_eq_false (by simp)]
    simp only [bI_ff]
    refine sIdx_A (i := 0) h8 rfl ?_
    simp only [cI_z, iEq_d]
    have e110 : Int.ofNat 110 = 110 := rfl
    have e116 : Int.ofNat 116 = 116 := rfl
    have e92 : Int.ofNat 92 = 92 := rfl
    have e34 : Int.ofNat 34 = 34 := rfl
    have e39 : Int.ofNat 39 = 39 := rfl
    have e120 : Int.ofNat 120 = 120 := rfl
    rw [e110, e116, e92, e34, e39]
    refine bI_dec (fun g => h1 10 1 ?_) fun g1 => ?_
    · simp only [esc]; rw [if_pos (by omega)]
    refine bI_dec (fun g => h1 9 1 ?_) fun g2 => ?_
    · simp only [esc]; rw [if_neg (by omega), if_pos (by omega)]
    have mark : c = 92 ∨ c = 34 ∨ c = 39 → f37_q2 (f19, puK) K (f37_l4 (f19, puK) K G.NL) (f37_q1 (f19, puK) K) (strA (c :: l)) (c : Int) true H := fun g => by
      unfold f37_q2
      rw [bI_tt]
      refine sIdx_A (i := 0) h8 rfl ?_
      simp only [cI_z]
      refine h1 c 1 ?_
      simp only [esc]; rw [if_neg (by omega), if_neg (by omega), if_pos g]
    refine bI_dec (fun g => ?_) fun g3 => bI_dec (fun g => ?_) fun g4 => ?_
    · rw [decide_eq_true g]; exact mark (by omega)
    · rw [decide_eq_true g]; exact mark (by omega)
    by_cases g5 : (c : Int) = 39
    · rw [decide_eq_true g5]; exact mark (by omega)
    rw [decide_eq_false g5]
    unfold f37_q2
    rw [bI_ff, iEq_d, e120]
    refine bI_dec (fun g6 => ?_) fun g6 => h2 ?_
    · have hc120 : c = 120 := by omega
      subst hc120
      simp only [sLen_A, cI_z, iLt_d]
      have e3 : Int.ofNat 3 = 3 := rfl
      rw [e3]
      refine bI_dec (fun g7 => h2 ?_) fun g7 => ?_
      · match l with
        | [] => rfl
        | [a] => rfl
        | a :: b :: r => simp at g7; omega
      · match l, h8, h1, h2, g7 with
        | [], _, _, _, g7 => simp at g7
        | [a], _, _, _, g7 => simp at g7
        | a :: b :: r, h8, h1, h2, _ =>
          exact f37_loop rfl h8 h1 h2 G.NL 1 (by omega) (by omega) (by have : G.NL = 1000000 := rfl; omega) fun j c h3 h4 _ => by omega
    · simp only [esc]
      rw [if_neg (by omega), if_neg (by omega), if_neg (by omega), if_neg (by omega)]
end Go.Proofs.YthmjeojcciefcaaDoor

namespace Go.X
variable {H : AH} {S : LS}
theorem FrS.frv {v : AV} {n : Nat} {l : List AV} (h : FrS S 1 v n l) : FrV S v l := by
  rcases h with ⟨rfl, _, rfl⟩ | ⟨b, c, ex, cs, rfl, h2, h3, h4, h5, h6, h7⟩
  · exact .inl ⟨rfl, rfl⟩
  · have e : n = l.length := by omega
    subst e
    exact .inr ⟨b, c, ex, cs, rfl, h2, by omega, h4, h6, h7⟩
theorem bcs_len (l : List Nat) : (bcs l).length = l.length := by simp [bcs]
theorem bcs_app (l m : List Nat) : bcs (l ++ m) = bcs l ++ bcs m := by simp [bcs]
/-- A row of bytes that is new since S0. -/
structure Byt (S0 S : LS) (v : AV) (acc : List Nat) : Prop where
  x : Ext S0 S
  fr : FrS S 1 v acc.length (bcs acc)
  own : ∀ b, bkOf v b → S0.n ≤ b
  b8 : B8 acc
theorem Byt.push {S0 : LS} {v : AV} {acc : List Nat} (h : Byt S0 S v acc) (hM : Mem H S) {c : Nat} (hc : c < 256) (hl : acc.length ≤ 1000000) {k : AV → AH → Prop} (hK : ∀ H' S' v', Mem H' S' → Byt S0 S' v' (acc ++ [c]) → k v' H') :
    pNewS (newK H) 1 1 [.int 1 (c : Int)] fun x H' => pApp 1 1 v x H' k := by
  refine push_s hM h.fr (by omega) rfl (by omega) (fun a ha => by simp at ha; subst ha; rfl) fun H' S' v' h' he => hK H' S' v' h' ?_
  obtain ⟨e1, e2⟩ := he.ext h.x h.own
  refine ⟨e1, ?_, e2, h.b8.app (B8.cons hc B8.nil)⟩
  rw [bcs_app, List.length_append]
  exact he.2.2.1
end Go.X
namespace Go.Proofs.YthmjeojcciefcaaDoor
open Go Go.X Go.Proofs.YthmjeojcciefcaaDoor.G
set_option maxRecDepth 100000
set_option maxHeartbeats 1600000
set_option linter.unusedVariables false
set_option linter.unusedSimpArgs false
variable {H : AH} {S : LS} {K : KF}
noncomputable def g22 : AV → AH → KF → Prop := f22_r g37
theorem g22_ok : FunOk Tryd.prog 22 (fnX [.a] g22) := f22_rok _ (CTblOk.cons g37_ok CTblOk.nil)
def bad2 (K : KF) (H : AH) : Prop := K (.ret (.tup [.str 0 0, .int 0 0])) H
theorem f22_round {S0 : LS} {s : List Nat} {m i q : Nat} {v : AV} {acc : List Nat} (h8 : B8 s) (h0 : s[0]? = some m) (hi : i ≤ s.length) (hlen : s.length ≤ 1000000) (hM : Mem H S) (hB : Byt S0 S v acc)  (hal : acc.length ≤ i)
    (hbad : s.drop i = [] ∨ 4096 < acc.length ∨ ((s.drop i).head? = some 10 ∧ 10 ≠ m) ∨ (∃ l', s.drop i = 92 :: l' ∧ 92 ≠ m ∧ esc l' = none) → bad2 K H)
    (hgood : (s.drop i).head? = some m → acc.length ≤ 4096 → K (.ret (.tup [strA acc, .int 0 ((i + 1 : Nat) : Int)])) H)
    (hone : ∀ c, (s.drop i).head? = some c → c ≠ m → c ≠ 10 → c ≠ 92 → acc.length ≤ 4096 → ∀ H' S' v', Mem H' S' → Byt S0 S' v' (acc ++ [c]) → f22_l2 g37 K q (strA s) v' ((i + 1 : Nat) : Int) H')
    (hesc : ∀ l' x k, s.drop i = 92 :: l' → 92 ≠ m → esc l' = some (x, k) → acc.length ≤ 4096 → ∀ H' S' v', Mem H' S' → Byt S0 S' v' (acc ++ [x]) → f22_l2 g37 K q (strA s) v' ((i + k + 1 : Nat) : Int) H') :
    f22_l2 g37 K (q + 1) (strA s) v i H := by
  show f22_q2 g37 K (f22_q3 g37 K (f22_l2 g37 K q)) (f22_q1 g37 K) (f22_q4 g37 K (f22_q3 g37 K (f22_l2 g37 K q))) (strA s) v (i : Int) H
  unfold f22_q2
  simp only [sLen_A, cI_z, iLt_d]
  have hnext : ∀ (n : Nat) (v' : AV) (H' : AH), (n : Int) ≤ 2000000 → f22_l2 g37 K q (strA s) v' ((n + 1 : Nat) : Int) H' → f22_q3 g37 K (f22_l2 g37 K q) (strA s) v' (n : Int) H' := fun n v' H' hn h => by
    unfold f22_q3
    simp only [iadd, io1]
    exact w0 (by omega) (by omega) h
  refine bI_dec (fun g => ?_) (fun g => hbad (.inl ?_))
  · have hil : i < s.length := by omega
    obtain ⟨c, hc⟩ : ∃ c, s[i]? = some c := ⟨_, List.getElem?_eq_getElem hil⟩
    have hd : s.drop i = c :: s.drop (i + 1) := by
      rw [List.drop_eq_getElem_cons hil]
      rw [(List.getElem?_eq_some_iff.1 hc).2]
    have hhd : (s.drop i).head? = some c := by rw [hd]; rfl
    refine hB.fr.len ?_
    simp only [cI_z, iLt_d]
    have e4096 : Int.ofNat 4096 = 4096 := rfl
    rw [e4096]
    by_cases g1 : (4096 : Int) < (acc.length : Int)
    · rw [decide_eq_true g1]
      exact hbad (.inr (.inl (by omega)))
    rw [decide_eq_false g1]
    have hacc : acc.length ≤ 4096 := by omega
    simp only [Bool.not_false, bI_tt]
    refine sIdx_A h8 hc ?_
    simp only [cI_z]
    refine sIdx_A (i := 0) h8 h0 ?_
    simp only [cI_z, iEq_d]
    refine bI_dec (fun g2 => ?_) (fun g2 => ?_)
    · have ecm : c = m := by omega
      refine pTextOf_v hM hB.fr.frv hB.b8 ?_
      · simp only [iadd, io1]
        refine w0 (by omega) (by omega) ?_
        exact hgood (by rw [hhd, ecm]) hacc
    · have hcm : c ≠ m := by omega
      have e10 : Int.ofNat 10 = 10 := rfl
      have e92 : Int.ofNat 92 = 92 := rfl
      rw [e10, e92]
      refine bI_dec (fun g3 => hbad (.inr (.inr (.inl ?_)))) (fun g3 => ?_)
      · have ec : c = 10 := by omega
        subst ec
        exact ⟨hhd, hcm⟩
      · by_cases g4 : (c : Int) = 92
        · rw [decide_eq_true g4]
          have ec : c = 92 := by omega
          subst ec
          simp only [Bool.not_true, bI_ff, iadd, io1]
          refine w0 (by omega) (by omega) ?_
          refine drop_A (i := i + 1) h8 (by omega) ?_
          refine g37_i (h8.drop _) (fun x k he => ?_) (fun he => ?_)
          · have hk := esc_len he
            simp only [cR_ret, onTup_t, nthK_0, nthK_s, cI_z]
            unfold f22_q4
            have e0 : Int.ofNat 0 = 0 := rfl
            rw [iEq_d, e0, decide_eq_false (by omega), bI_ff]
            refine hB.push hM (esc_lt (h8.drop _) he) (by omega) fun H' S' v' h' hB' => ?_
            simp only [iadd]
            have hk2 : k ≤ s.length := by have := hk.2; simp at this; omega
            refine w0 (by omega) (by omega) ?_
            refine hnext (i + k) v' H' (by omega) ?_
            exact hesc _ x k hd hcm he hacc H' S' v' h' hB'
          · simp only [cR_ret, onTup_t, nthK_0, nthK_s, cI_z]
            unfold f22_q4
            have e0 : Int.ofNat 0 = 0 := rfl
            rw [iEq_d, e0, decide_eq_true rfl, bI_tt]
            exact hbad (.inr (.inr (.inr ⟨_, hd, hcm, he⟩)))
        · rw [decide_eq_false g4]
          simp only [Bool.not_false, bI_tt]
          refine hB.push hM (h8 c (List.mem_of_getElem? hc)) (by omega) fun H' S' v' h' hB' => ?_
          refine hnext i v' H' (by omega) ?_
          exact hone c hhd hcm (by omega) (by omega) hacc H' S' v' h' hB'
  · exact List.drop_of_length_le (by omega)
theorem f22_quo {S0 : LS} {s : List Nat} {m : Nat} (h8 : B8 s) (h0 : s[0]? = some m) (hlen : s.length ≤ 1000000) {l t : List Nat} {j : Nat} (hq : Quo m l t j) :
    ∀ (q i : Nat) (acc : List Nat) (v : AV) (H : AH) (S : LS), l = s.drop i → i ≤ s.length → s.length - i < q → Mem H S → Byt S0 S v acc → acc.length ≤ i →
      ((acc ++ t).length ≤ 4096 → ∀ H' S', Mem H' S' → Ext S0 S' → K (.ret (.tup [strA (acc ++ t), .int 0 ((i + j : Nat) : Int)])) H') →
      (4096 < (acc ++ t).length → ∀ H' S', Mem H' S' → Ext S0 S' → bad2 K H') → f22_l2 g37 K q (strA s) v i H := by
  induction hq with
  | stop l =>
    intro q i acc v H S hl hi hq hM hB ha hg hb
    obtain ⟨q, rfl⟩ : ∃ p, q = p + 1 := ⟨q - 1, by omega⟩
    rw [List.append_nil] at hg hb
    refine f22_round h8 h0 hi hlen hM hB ha (fun h => ?_) (fun _ h => hg h H S hM hB.x) (fun c h hc => ?_) (fun l' x k h hm => ?_)
    · rw [← hl] at h
      rcases h with h | h | ⟨h, h'⟩ | ⟨l', h, h', _⟩
      · cases h
      · exact hb h H S hM hB.x
      · simp at h; exact absurd h.symm h'
      · injection h with h1; exact absurd h1.symm h'
    · rw [← hl] at h
      simp at h
      exact absurd h.symm hc
    · rw [← hl] at h
      injection h with h1
      exact absurd h1.symm hm
  | one c l t j hm h10 h92 hq' ih =>
    intro q i acc v H S hl hi hq hM hB ha hg hb
    obtain ⟨q, rfl⟩ : ∃ p, q = p + 1 := ⟨q - 1, by omega⟩
    have hil : i < s.length := by
      rcases Nat.lt_or_ge i s.length with g | g
      · exact g
      · rw [List.drop_of_length_le g] at hl; cases hl
    have hl' : l = s.drop (i + 1) := by
      rw [← List.drop_drop, ← hl]; rfl
    have e : ∀ x : List Nat, (acc ++ [c]) ++ x = acc ++ c :: x := fun x => by simp
    refine f22_round h8 h0 hi hlen hM hB ha (fun h => ?_) (fun h _ => ?_) (fun d h _ _ _ _ H' S' v' h' hB' => ?_) (fun l' x k h hm => ?_)
    · rw [← hl] at h
      rcases h with h | h | ⟨h, h'⟩ | ⟨l', h, h', _⟩
      · cases h
      · exact hb (by simp; omega) H S hM hB.x
      · simp at h; exact absurd h h10
      · injection h with h1; exact absurd h1 h92
    · rw [← hl] at h
      simp at h
      exact absurd h hm
    · rw [← hl] at h
      have hdc : c = d := by simpa using h
      subst hdc
      refine ih q (i + 1) (acc ++ [c]) v' H' S' hl' (by omega) (by omega) h' hB' (by simp; omega) (fun g => ?_) (fun g => ?_)
      · rw [e] at g ⊢
        rw [show i + 1 + j = i + (j + 1) by omega]
        exact hg g
      · rw [e] at g; exact hb g
    · rw [← hl] at h
      injection h with h1
      exact absurd h1 h92
  | esc l t x k j h92 he hq' ih =>
    intro q i acc v H S hl hi hq hM hB ha hg hb
    obtain ⟨q, rfl⟩ : ∃ p, q = p + 1 := ⟨q - 1, by omega⟩
    have hil : i < s.length := by
      rcases Nat.lt_or_ge i s.length with g | g
      · exact g
      · rw [List.drop_of_length_le g] at hl; cases hl
    have hl' : l = s.drop (i + 1) := by
      rw [← List.drop_drop, ← hl]; rfl
    have hk := esc_len he
    have hkl : i + 1 + k ≤ s.length := by
      have : l.length = s.length - (i + 1) := by rw [hl']; simp
      omega
    have e : ∀ y : List Nat, (acc ++ [x]) ++ y = acc ++ x :: y := fun y => by simp
    refine f22_round h8 h0 hi hlen hM hB ha (fun h => ?_) (fun h _ => ?_) (fun d h _ _ h92' _ => ?_) (fun l' x' k' h _ he' _ H' S' v' h' hB' => ?_)
    · rw [← hl] at h
      rcases h with h | h | ⟨h, h'⟩ | ⟨l', h, h', hn⟩
      · cases h
      · exact hb (by simp; omega) H S hM hB.x
      · simp at h
      · injection h with _ h1
        subst h1
        rw [he] at hn
        cases hn
    · rw [← hl] at h
      simp at h
      exact absurd h.symm h92
    · rw [← hl] at h
      have hdc : 92 = d := by simpa using h
      exact absurd hdc.symm h92'
    · rw [← hl] at h
      injection h with _ h1
      subst h1
      rw [he] at he'
      cases he'
      refine ih q (i + k + 1) (acc ++ [x]) v' H' S' (by rw [hl', List.drop_drop]; congr 1; omega) (by omega) (by omega) h' hB' (by simp; omega) (fun g => ?_) (fun g => ?_)
      · rw [e] at g ⊢
        rw [show i + k + 1 + j = i + (k + j + 1) by omega]
        exact hg g
      · rw [e] at g; exact hb g
theorem f22_non {S0 : LS} {s : List Nat} {m : Nat} (h8 : B8 s) (h0 : s[0]? = some m) (hlen : s.length ≤ 1000000) {l : List Nat} (hq : QuoN m l) :
    ∀ (q i : Nat) (acc : List Nat) (v : AV) (H : AH) (S : LS), l = s.drop i → i ≤ s.length → s.length - i < q → Mem H S → Byt S0 S v acc → acc.length ≤ i →
      (∀ H' S', Mem H' S' → Ext S0 S' → bad2 K H') → f22_l2 g37 K q (strA s) v i H := by
  induction hq with
  | nil =>
    intro q i acc v H S hl hi hq hM hB ha hb
    obtain ⟨q, rfl⟩ : ∃ p, q = p + 1 := ⟨q - 1, by omega⟩
    refine f22_round h8 h0 hi hlen hM hB ha (fun _ => hb H S hM hB.x) (fun h _ => ?_) (fun c h hc => ?_) (fun l' x k h hm => ?_) <;> (rw [← hl] at h; cases h)
  | line l hm10 =>
    intro q i acc v H S hl hi hq hM hB ha hb
    obtain ⟨q, rfl⟩ : ∃ p, q = p + 1 := ⟨q - 1, by omega⟩
    refine f22_round h8 h0 hi hlen hM hB ha (fun _ => hb H S hM hB.x) (fun h _ => ?_) (fun c h _ hc => ?_) (fun l' x k h hm => ?_)
    · rw [← hl] at h; simp at h; exact absurd h.symm hm10
    · rw [← hl] at h; simp at h; exact absurd h.symm hc
    · rw [← hl] at h; injection h with h1; cases h1
  | one c l hm h10 h92 hq' ih =>
    intro q i acc v H S hl hi hq hM hB ha hb
    obtain ⟨q, rfl⟩ : ∃ p, q = p + 1 := ⟨q - 1, by omega⟩
    have hil : i < s.length := by
      rcases Nat.lt_or_ge i s.length with g | g
      · exact g
      · rw [List.drop_of_length_le g] at hl; cases hl
    have hl' : l = s.drop (i + 1) := by
      rw [← List.drop_drop, ← hl]; rfl
    refine f22_round h8 h0 hi hlen hM hB ha (fun _ => hb H S hM hB.x) (fun h _ => ?_) (fun d h _ _ _ _ H' S' v' h' hB' => ?_) (fun l' x k h hm => ?_)
    · rw [← hl] at h
      simp at h
      exact absurd h hm
    · exact ih q (i + 1) _ v' H' S' hl' (by omega) (by omega) h' hB' (by simp; omega) hb
    · rw [← hl] at h
      injection h with h1
      exact absurd h1 h92
  | bad l hm he =>
    intro q i acc v H S hl hi hq hM hB ha hb
    obtain ⟨q, rfl⟩ : ∃ p, q = p + 1 := ⟨q - 1, by omega⟩
    refine f22_round h8 h0 hi hlen hM hB ha (fun _ => hb H S hM hB.x) (fun h _ => ?_) (fun d h _ _ h92' _ => ?_) (fun l' x' k' h _ he' => ?_)
    · rw [← hl] at h; simp at h; exact absurd h.symm hm
    · rw [← hl] at h
      have hdc : 92 = d := by simpa using h
      exact absurd hdc.symm h92'
    · rw [← hl] at h
      injection h with _ h1
      subst h1
      rw [he] at he'
      cases he'
  | esc l x k h92 he hq' ih =>
    intro q i acc v H S hl hi hq hM hB ha hb
    obtain ⟨q, rfl⟩ : ∃ p, q = p + 1 := ⟨q - 1, by omega⟩
    have hil : i < s.length := by
      rcases Nat.lt_or_ge i s.length with g | g
      · exact g
      · rw [List.drop_of_length_le g] at hl; cases hl
    have hl' : l = s.drop (i + 1) := by
      rw [← List.drop_drop, ← hl]; rfl
    have hk := esc_len he
    have hkl : i + 1 + k ≤ s.length := by
      have : l.length = s.length - (i + 1) := by rw [hl']; simp
      omega
    refine f22_round h8 h0 hi hlen hM hB ha (fun _ => hb H S hM hB.x) (fun h _ => ?_) (fun d h _ _ h92' _ => ?_) (fun l' x' k' h _ he' _ H' S' v' h' hB' => ?_)
    · rw [← hl] at h; simp at h; exact absurd h.symm h92
    · rw [← hl] at h
      have hdc : 92 = d := by simpa using h
      exact absurd hdc.symm h92'
    · rw [← hl] at h
      injection h with _ h1
      subst h1
      rw [he] at he'
      cases he'
      exact ih q (i + k + 1) _ v' H' S' (by rw [hl', List.drop_drop]; congr 1; omega) (by omega) (by omega) h' hB' (by simp; omega) hb
theorem g22_i {m : Nat} {l : List Nat} (h8 : B8 (m :: l)) (hlen : (m :: l).length ≤ 1000000) (hm : m = 34 ∨ m = 39) (hM : Mem H S)
    (hg : ∀ t j, Quo m l t j → t.length ≤ 4096 → ∀ H' S', Mem H' S' → Ext S S' → K (.ret (.tup [strA t, .int 0 ((1 + j : Nat) : Int)])) H')
    (hb : (QuoN m l ∨ ∃ t j, Quo m l t j ∧ 4096 < t.length) → ∀ H' S', Mem H' S' → Ext S S' → bad2 K H') : g22 (strA (m :: l)) H K := by
  show f22_q0 g37 K (f22_l2 g37 K G.NL) (strA (m :: l)) H
  unfold f22_q0
  have hB : Byt S S .nslice [] := ⟨Ext.refl S, FrS.nil S 1, fun _ h => h.elim, B8.nil⟩
  have hNL : G.NL = 1000000 := rfl
  rcases quo_ex (m := m) (by omega) (by omega) (l.length + 1) l (by omega) with ⟨t, j, hq⟩ | hq
  · exact f22_quo h8 rfl hlen hq G.NL 1 [] .nslice H S rfl (by simp) (by simp at hlen ⊢; omega) hM hB (by simp) (fun g => hg t j hq g) (fun g => hb (.inr ⟨t, j, hq, g⟩))
  · exact f22_non h8 rfl hlen hq G.NL 1 [] .nslice H S rfl (by simp) (by simp at hlen ⊢; omega) hM hB (by simp) (hb (.inl hq))
end Go.Proofs.YthmjeojcciefcaaDoor

namespace Go.Proofs.YthmjeojcciefcaaDoor
open Go Go.X Go.Proofs.YthmjeojcciefcaaDoor.G
set_option maxRecDepth 100000
set_option maxHeartbeats 1600000
set_option linter.unusedVariables false
set_option linter.unusedSimpArgs false
variable {H : AH} {S : LS} {K : KF}
noncomputable def R9 : f9_R := (g12, ixK, f17, f18, f19, g20, piK, g22)
noncomputable def g9 : AV → AH → KF → Prop := f9_r R9
theorem g9_ok : FunOk Tryd.prog 9 (fnX [.a] g9) := f9_rok R9 (CTblOk.cons g12_ok (CTblOk.cons ix_ok (CTblOk.cons f17_ok (CTblOk.cons f18_ok (CTblOk.cons f19_ok (CTblOk.cons g20_ok (CTblOk.cons pi_ok (CTblOk.cons g22_ok CTblOk.nil))))))))
theorem r9a : R9.1 = g12 := rfl
theorem r9b : R9.2.1 = ixK := rfl
theorem r9c : R9.2.2.1 = f17 := rfl
theorem r9d : R9.2.2.2.1 = f18 := rfl
theorem r9e : R9.2.2.2.2.1 = f19 := rfl
theorem r9f : R9.2.2.2.2.2.1 = g20 := rfl
theorem r9g : R9.2.2.2.2.2.2.1 = piK := rfl
theorem r9h : R9.2.2.2.2.2.2.2 = g22 := rfl
/-- The tokens so far, and the token that is being made. -/
structure LxI (S0 S : LS) (v : AV) (acc : List Tok) (bt : Nat) (tc : List AV) : Prop where
  x : Ext S0 S
  fr : FrS S 4 v acc.length (tcs acc)
  own : ∀ b, bkOf v b → S0.n ≤ b
  tb : S.ob bt = .cells tc 0
  tl : tc.length = 4
  tn : S0.n ≤ bt
  ne : ¬ bkOf v bt
/-- What Lex gives. -/
def LxP (K : KF) (S0 : LS) (acc : List Tok) (r : List Tok ⊕ Nat) : Prop := match r with
  | .inl ts => ∀ H' S' v', Mem H' S' → Ext S0 S' → FrS S' 4 v' (acc ++ ts).length (tcs (acc ++ ts)) → (∀ b, bkOf v' b → S0.n ≤ b) → K (.ret (.tup [v', .int 0 0, .int 0 0])) H'
  | .inr e => ∀ H' S', Mem H' S' → Ext S0 S' → K (.ret (.tup [.nslice, .int 0 14, .int 0 (e : Int)])) H'
section
variable {S0 : LS} {v : AV} {acc : List Tok} {bt : Nat} {tc : List AV}
theorem LxI.ext {S' : LS} (h : LxI S0 S v acc bt tc) (hM : Mem H S) (hx : Ext S S') : LxI S0 S' v acc bt tc :=
  ⟨h.x.trans hx, h.fr.keep hM fun b _ hb => hx.ob b hb, h.own, hx.get hM h.tb, h.tl, h.tn, h.ne⟩
/-- A field of the token is set. -/
theorem LxI.store (h : LxI S0 S v acc bt tc) (hM : Mem H S) {o : Nat} {a : AV} {k : AH → Prop} (ho : o < 4) (ha : a.one = true) (hk : ∀ H' S', Mem H' S' → LxI S0 S' v acc bt (tc.set o a) → k H') : pFld o (.ptr bt 0) fun p => pStore 1 p a H k := by
  rw [pFld_ptr, Nat.zero_add]
  refine pStore_i hM h.tb (by omega) (by rw [h.tl]; exact ho) ha fun H' h' => ?_
  refine hk H' _ h' ⟨h.x.set h.tn _, h.fr.keep hM fun b hb _ => LS.set_ob_ne _ _ fun e => ?_, h.own, LS.set_ob_self _ _ _, by rw [List.length_set]; exact h.tl, h.tn, h.ne⟩
  subst e
  exact h.ne hb
theorem LxI.load (h : LxI S0 S v acc bt tc) (hM : Mem H S) {o : Nat} {a : AV} {k : AV → Prop} (ho : tc[o]? = some a) (hk : k a) : pFld o (.ptr bt 0) fun p => pLoad p H k := by
  rw [pFld_ptr, Nat.zero_add]
  exact pLoad_i hM h.tb ho hk
/-- The token is put behind the others. -/
theorem LxI.push (h : LxI S0 S v acc bt tc) (hM : Mem H S) {t : Tok} (e : tc = t.cs) (hl : acc.length ≤ 100000) {k : AV → AH → Prop} (hk : ∀ H' S' v', Mem H' S' → LxI S0 S' v' (acc ++ [t]) bt tc → k v' H') :
    pLoadN 4 (.ptr bt 0) H fun v1 => onVal v1 fun l2 => lenI l2 4 (pNewS (newK H) 1 4 (spl l2 [.int 0 (.ofNat 0), .str 0 0, .int 0 (.ofNat 0), .int 0 (.ofNat 0)] 0) fun v3 H4 => pApp 4 40 v v3 H4 k) := by
  refine pLoadN_i hM h.tb (by rw [h.tl]; omega) ?_
  rw [List.drop_zero, List.take_of_length_le (by rw [h.tl]; omega), e]
  show pNewS (newK H) 1 4 t.cs fun v3 H4 => pApp 4 40 v v3 H4 k
  refine push_s hM h.fr (by omega) rfl (by omega) (fun a ha => ?_) fun H' S' v' h' he => ?_
  · simp only [Tok.cs, List.mem_cons, List.not_mem_nil, or_false] at ha
    rcases ha with rfl | rfl | rfl | rfl <;> rfl
  · obtain ⟨e1, e2⟩ := he.ext h.x h.own
    obtain ⟨a1, a2, a3, a4⟩ := he
    have hlt : bt < S.n := hM.lt (by rw [h.tb]; simp)
    have ecs : tcs (acc ++ [t]) = tcs acc ++ t.cs := by
      rw [tcs_app]
      show tcs acc ++ (t.cs ++ []) = _
      rw [List.append_nil]
    refine hk H' S' v' h' ⟨e1, by rw [ecs, List.length_append]; exact a3, e2, by rw [a2 bt hlt h.ne]; exact h.tb, h.tl, h.tn, fun g => ?_⟩
    rcases a4 bt g with g | g
    · exact h.ne g
    · omega
variable {s : List Nat} {p : Nat} {i1 : AV → AV → AV → Int → AH → Prop}
/-- Behind the last token. -/
theorem f9_end (h8 : B8 s) (hs : s.length ≤ 16384) (hM : Mem H S) (hI : LxI S0 S v acc bt tc) (hp : p = s.length) (hal : acc.length ≤ p) (hP : LxP K S0 acc (.inl [⟨0, [], 0, p⟩])) (q : Nat) :
    f9_l8 R9 K i1 (q + 1) (strA s) v (.ptr bt 0) p H := by
  show f9_q8 R9 K (f9_l8 R9 K i1 q) (f9_q7 R9 K (f9_l15 R9 K i1 G.NL) (f9_q9 R9 K (f9_l18 R9 K i1 G.NL))) (strA s) v (.ptr bt 0) (p : Int) H
  unfold f9_q8
  simp only [sLen_A, cI_z, iLt_d]
  rw [decide_eq_false (by omega), bI_ff]
  unfold f9_q7
  refine drop_A h8 (by omega) ?_
  rw [r9c]
  refine f17_A (m := [45, 45]) (h8.drop _) (b8_lit (by decide)) ?_
  simp only [cR_ret, onB_b]
  rw [List.drop_of_length_le (by omega), decide_eq_false (by simp), bI_ff]
  unfold f9_q9
  have hst : ∀ {k : AH → Prop}, (∀ H' S', Mem H' S' → LxI S0 S' v acc bt (Tok.cs ⟨0, [], 0, p⟩) → k H') → pStore 4 (.ptr bt 0) (.agg [.int 0 (.ofNat 0), .str 0 0, .int 0 (.ofNat 0), .int 0 (p : Int)]) H k := fun {k} hk => by
    refine pStoreN_i hM hI.tb (by omega) rfl (by rw [hI.tl]; omega) (fun a ha => ?_) fun H' h' => ?_
    · simp only [List.mem_cons, List.not_mem_nil, or_false] at ha
      rcases ha with rfl | rfl | rfl | rfl <;> rfl
    · have e : spliceL tc 0 [.int 0 (.ofNat 0), .str 0 0, .int 0 (.ofNat 0), .int 0 (p : Int)] = Tok.cs ⟨0, [], 0, p⟩ := by
        unfold spliceL
        rw [List.take_zero, List.drop_of_length_le (by rw [hI.tl]; show 4 ≤ 0 + 4; omega)]
        rfl
      rw [e] at h'
      refine hk H' _ h' ⟨hI.x.set hI.tn _, hI.fr.keep hM fun b hb _ => LS.set_ob_ne _ _ fun e => ?_, hI.own, LS.set_ob_self _ _ _, rfl, hI.tn, hI.ne⟩
      subst e
      exact hI.ne hb
  refine hst fun H1 S1 m1 i1' => ?_
  simp only [sLen_A, cI_z, iEq_d]
  rw [decide_eq_true (by omega), bI_tt]
  refine i1'.push m1 rfl (by omega) fun H2 S2 v2 m2 i2 => ?_
  exact hP H2 S2 v2 m2 i2.x i2.fr i2.own
/-- How a suffix begins. -/
theorem suf {s : List Nat} {p c : Nat} {l : List Nat} (h : s.drop p = c :: l) : s[p]? = some c ∧ p < s.length ∧ s.drop (p + 1) = l := by
  have hlt : p < s.length := by
    rcases Nat.lt_or_ge p s.length with g | g
    · exact g
    · rw [List.drop_of_length_le g] at h; cases h
  rw [List.drop_eq_getElem_cons hlt] at h
  injection h with h1 h2
  exact ⟨by rw [List.getElem?_eq_getElem hlt, h1], hlt, h2⟩
theorem bl_mem {c : Nat} : BlP c ↔ c ∈ ([32, 9, 10, 13] : List Nat) := by
  unfold BlP
  simp only [List.mem_cons, List.not_mem_nil, or_false]
theorem f9_blank (h8 : B8 s) (hs : s.length ≤ 16384) {c : Nat} {l : List Nat} (hd : s.drop p = c :: l) (hc : BlP c) {q : Nat} (hk : f9_l8 R9 K i1 q (strA s) v (.ptr bt 0) ((p + 1 : Nat) : Int) H) :
    f9_l8 R9 K i1 (q + 1) (strA s) v (.ptr bt 0) p H := by
  obtain ⟨h1, h2, h3⟩ := suf hd
  show f9_q8 R9 K (f9_l8 R9 K i1 q) (f9_q7 R9 K (f9_l15 R9 K i1 G.NL) (f9_q9 R9 K (f9_l18 R9 K i1 G.NL))) (strA s) v (.ptr bt 0) (p : Int) H
  unfold f9_q8
  simp only [sLen_A, cI_z, iLt_d]
  rw [decide_eq_true (by omega), bI_tt]
  refine sIdx_A h8 h1 ?_
  simp only [cI_z]
  rw [r9b]
  refine ⟨[32, 9, 10, 13], c, rfl, rfl, b8_lit (by decide), h8 c (List.mem_of_getElem? h1), fun z hz => ?_⟩
  have := hz.2 (bl_mem.1 hc)
  simp only [cR_ret, cI_z, iLt_d]
  have e0 : Int.ofNat 0 = 0 := rfl
  rw [e0, decide_eq_false (by omega)]
  simp only [Bool.not_false, bI_tt, iadd, io1]
  exact w0 (by omega) (by omega) hk
theorem take2 {c : Nat} {l : List Nat} : (c :: l).take ([45, 45] : List Nat).length = [45, 45] ↔ c = 45 ∧ l.head? = some 45 := by
  show (c :: l).take 2 = [45, 45] ↔ _
  cases l with
  | nil => simp
  | cons d l => simp
/-- Neither a blank nor a remark. -/
theorem f9_pre (h8 : B8 s) (hs : s.length ≤ 16384) (hM : Mem H S) (hI : LxI S0 S v acc bt tc) {c : Nat} {l : List Nat} (hd : s.drop p = c :: l) (hc : ¬ BlP c) (hr : ¬ (c = 45 ∧ l.head? = some 45)) {q : Nat}
    (hk : ∀ H' S', Mem H' S' → LxI S0 S' v acc bt (Tok.cs ⟨0, [], 0, p⟩) → f9_l18 R9 K i1 G.NL (strA s) v (.ptr bt 0) (p : Int) (p : Int) H') :
    f9_l8 R9 K i1 (q + 1) (strA s) v (.ptr bt 0) p H := by
  obtain ⟨h1, h2, h3⟩ := suf hd
  show f9_q8 R9 K (f9_l8 R9 K i1 q) (f9_q7 R9 K (f9_l15 R9 K i1 G.NL) (f9_q9 R9 K (f9_l18 R9 K i1 G.NL))) (strA s) v (.ptr bt 0) (p : Int) H
  unfold f9_q8
  simp only [sLen_A, cI_z, iLt_d]
  rw [decide_eq_true (by omega), bI_tt]
  refine sIdx_A h8 h1 ?_
  simp only [cI_z]
  rw [r9b]
  refine ⟨[32, 9, 10, 13], c, rfl, rfl, b8_lit (by decide), h8 c (List.mem_of_getElem? h1), fun z hz => ?_⟩
  have : ¬ 0 ≤ z := fun g => hc (bl_mem.2 (hz.1 g))
  simp only [cR_ret, cI_z, iLt_d]
  have e0 : Int.ofNat 0 = 0 := rfl
  rw [e0, decide_eq_true (by omega)]
  simp only [Bool.not_true, bI_ff]
  unfold f9_q7
  refine drop_A h8 (by omega) ?_
  rw [r9c]
  refine f17_A (m := [45, 45]) (h8.drop _) (b8_lit (by decide)) ?_
  simp only [cR_ret, onB_b]
  rw [hd, decide_eq_false (fun g => hr (take2.1 g)), bI_ff]
  unfold f9_q9
  refine pStoreN_i hM hI.tb (by omega) rfl (by rw [hI.tl]; omega) (fun a ha => ?_) fun H' h' => ?_
  · simp only [List.mem_cons, List.not_mem_nil, or_false] at ha
    rcases ha with rfl | rfl | rfl | rfl <;> rfl
  · have e : spliceL tc 0 [.int 0 (.ofNat 0), .str 0 0, .int 0 (.ofNat 0), .int 0 (p : Int)] = Tok.cs ⟨0, [], 0, p⟩ := by
      unfold spliceL
      rw [List.take_zero, List.drop_of_length_le (by rw [hI.tl]; show 4 ≤ 0 + 4; omega)]
      rfl
    rw [e] at h'
    simp only [sLen_A, cI_z, iEq_d]
    rw [decide_eq_false (by omega), bI_ff]
    refine hk H' _ h' ⟨hI.x.set hI.tn _, hI.fr.keep hM fun b hb _ => LS.set_ob_ne _ _ fun e => ?_, hI.own, LS.set_ob_self _ _ _, rfl, hI.tn, hI.ne⟩
    subst e
    exact hI.ne hb
/-- A remark: up to the line's end. -/
theorem f9_line (h8 : B8 s) (hs : s.length ≤ 16384) {e : Nat} (hk : i1 (strA s) v (.ptr bt 0) (e : Int) H) : ∀ (q j : Nat), j ≤ s.length → s.length - j < q → j + lineL (s.drop j) = e → f9_l15 R9 K i1 q (strA s) v (.ptr bt 0) (j : Int) H
  | 0, _, _, h, _ => by omega
  | q + 1, j, hj, hq, he => by
    show f9_q15 R9 K (f9_l15 R9 K i1 q) (f9_q13 R9 K i1) (strA s) v (.ptr bt 0) (j : Int) H
    unfold f9_q15
    simp only [sLen_A, cI_z, iLt_d]
    refine bI_dec (fun g => ?_) (fun g => ?_)
    · have hjl : j < s.length := by omega
      obtain ⟨c, hc⟩ : ∃ c, s[j]? = some c := ⟨_, List.getElem?_eq_getElem hjl⟩
      have hd : s.drop j = c :: s.drop (j + 1) := by
        rw [List.drop_eq_getElem_cons hjl]
        rw [(List.getElem?_eq_some_iff.1 hc).2]
      refine sIdx_A h8 hc ?_
      simp only [cI_z, iEq_d]
      have e10 : Int.ofNat 10 = 10 := rfl
      rw [e10]
      by_cases g2 : (c : Int) = 10
      · rw [decide_eq_true g2]
        simp only [Bool.not_true, bI_ff]
        unfold f9_q13
        have ec : c = 10 := by omega
        subst ec
        rw [hd] at he
        have : lineL (10 :: s.drop (j + 1)) = 0 := by unfold lineL; simp
        rw [this] at he
        rw [show j = e by omega]
        exact hk
      · rw [decide_eq_false g2]
        simp only [Bool.not_false, bI_tt, iadd, io1]
        refine w0 (by omega) (by omega) ?_
        refine f9_line h8 hs hk q (j + 1) (by omega) (by omega) ?_
        rw [hd] at he
        have : lineL (c :: s.drop (j + 1)) = lineL (s.drop (j + 1)) + 1 := by
          conv => lhs; unfold lineL
          rw [if_neg (by omega)]
        omega
    · unfold f9_q13
      rw [List.drop_of_length_le (by omega)] at he
      have : j = e := he
      subst this
      exact hk
theorem f9_remark (h8 : B8 s) (hs : s.length ≤ 16384) {l : List Nat} (hd : s.drop p = 45 :: 45 :: l) {q : Nat} (hk : i1 (strA s) v (.ptr bt 0) ((p + lineL (45 :: 45 :: l) : Nat) : Int) H) :
    f9_l8 R9 K i1 (q + 1) (strA s) v (.ptr bt 0) p H := by
  obtain ⟨h1, h2, h3⟩ := suf hd
  show f9_q8 R9 K (f9_l8 R9 K i1 q) (f9_q7 R9 K (f9_l15 R9 K i1 G.NL) (f9_q9 R9 K (f9_l18 R9 K i1 G.NL))) (strA s) v (.ptr bt 0) (p : Int) H
  unfold f9_q8
  simp only [sLen_A, cI_z, iLt_d]
  rw [decide_eq_true (by omega), bI_tt]
  refine sIdx_A h8 h1 ?_
  simp only [cI_z]
  rw [r9b]
  refine ⟨[32, 9, 10, 13], 45, rfl, rfl, b8_lit (by decide), by omega, fun z hz => ?_⟩
  have : ¬ 0 ≤ z := fun g => by have := hz.1 g; simp at this
  simp only [cR_ret, cI_z, iLt_d]
  have e0 : Int.ofNat 0 = 0 := rfl
  rw [e0, decide_eq_true (by omega)]
  simp only [Bool.not_true, bI_ff]
  unfold f9_q7
  refine drop_A h8 (by omega) ?_
  rw [r9c]
  refine f17_A (m := [45, 45]) (h8.drop _) (b8_lit (by decide)) ?_
  simp only [cR_ret, onB_b]
  rw [hd, decide_eq_true (take2.2 ⟨rfl, rfl⟩), bI_tt]
  exact f9_line h8 hs hk G.NL p (by omega) (by have : G.NL = 1000000 := rfl; omega) (by rw [hd])
/-- The run of letters and digits. -/
theorem f9_run (h8 : B8 s) (hs : s.length ≤ 16384) {e : Nat} (hk : f9_p14 R9 K i1 (strA s) v (.ptr bt 0) (p : Int) (e : Int) H) : ∀ (q j : Nat), j ≤ s.length → s.length - j < q → j + runL (s.drop j) = e → f9_l18 R9 K i1 q (strA s) v (.ptr bt 0) (p : Int) (j : Int) H
  | 0, _, _, h, _ => by omega
  | q + 1, j, hj, hq, he => by
    show f9_q18 R9 K (f9_l18 R9 K i1 q) (f9_p14 R9 K i1) (strA s) v (.ptr bt 0) (p : Int) (j : Int) H
    unfold f9_q18
    simp only [sLen_A, cI_z, iLt_d]
    refine bI_dec (fun g => ?_) (fun g => ?_)
    · have hjl : j < s.length := by omega
      obtain ⟨c, hc⟩ : ∃ c, s[j]? = some c := ⟨_, List.getElem?_eq_getElem hjl⟩
      have hd : s.drop j = c :: s.drop (j + 1) := by
        rw [List.drop_eq_getElem_cons hjl]
        rw [(List.getElem?_eq_some_iff.1 hc).2]
      refine sIdx_A h8 hc ?_
      simp only [cI_z]
      rw [r9d]
      refine f18_i fun b hb => ?_
      simp only [cR_ret, onB_b]
      rw [hd] at he
      cases b with
      | true =>
        simp only [bI_tt, iadd, io1]
        refine w0 (by omega) (by omega) ?_
        refine f9_run h8 hs hk q (j + 1) (by omega) (by omega) ?_
        have : runL (c :: s.drop (j + 1)) = runL (s.drop (j + 1)) + 1 := by
          conv => lhs; unfold runL
          rw [if_pos (hb.1 rfl)]
        omega
      | false =>
        simp only [bI_ff]
        have : runL (c :: s.drop (j + 1)) = 0 := by
          unfold runL
          rw [if_neg fun g => by have := hb.2 g; cases this]
        rw [this] at he
        rw [show j = e by omega]
        exact hk
    · rw [List.drop_of_length_le (by omega)] at he
      have : j = e := he
      subst this
      exact hk
end
end Go.Proofs.YthmjeojcciefcaaDoor

namespace Go.X
theorem any_words {f : AV → Bool} {t : List Nat} (hf : ∀ m, B8 m → f (strA m) = decide (t = m)) : ∀ (ws : List (List Nat)), (∀ m ∈ ws, B8 m) → (ws.map strA).any f = decide (t ∈ ws)
  | [], h => rfl
  | m :: ws, h => by
    rw [List.map_cons, List.any_cons, any_words hf ws (fun x hx => h x (by simp [hx])), hf m (h m (by simp)), Bool.eq_iff_iff]
    simp
theorem pNilI_n (r : Bool) (k : AV → Prop) : pNilI r .niface k = k (.bool r) := rfl
theorem pNilI_i (r : Bool) (t : Nat) (a : AV) (k : AV → Prop) : pNilI r (.iface t a) k = k (.bool (!r)) := rfl
theorem quo_not {m : Nat} {l t : List Nat} {j : Nat} (h : Quo m l t j) : ¬ QuoN m l := by
  induction h with
  | stop l =>
    intro g
    cases g with
    | line _ h => exact h rfl
    | one _ _ h => exact h rfl
    | bad _ h => exact h rfl
    | esc _ _ _ h => exact h rfl
  | one c l t j h1 h2 h3 _ ih =>
    intro g
    cases g with
    | line _ h => exact h2 rfl
    | one _ _ _ _ _ g => exact ih g
    | bad _ h => exact h3 rfl
    | esc _ _ _ h => exact h3 rfl
  | esc l t v k j h1 he _ ih =>
    intro g
    cases g with
    | one _ _ _ _ h _ => exact h rfl
    | bad _ _ h => rw [he] at h; cases h
    | esc _ v' k' _ h g =>
      rw [he] at h
      cases h
      exact ih g
theorem quo_one {m : Nat} {l t : List Nat} {j : Nat} (h : Quo m l t j) : ∀ {t' j'}, Quo m l t' j' → t' = t ∧ j' = j := by
  induction h with
  | stop l =>
    intro t' j' g
    cases g with
    | stop => exact ⟨rfl, rfl⟩
    | one _ _ _ _ h => exact absurd rfl h
    | esc _ _ _ _ _ h => exact absurd rfl h
  | one c l t j h1 h2 h3 _ ih =>
    intro t' j' g
    cases g with
    | stop => exact absurd rfl h1
    | one _ _ _ _ _ _ _ g =>
      obtain ⟨rfl, rfl⟩ := ih g
      exact ⟨rfl, rfl⟩
    | esc _ _ _ _ _ h => exact absurd rfl h3
  | esc l t v k j h1 he _ ih =>
    intro t' j' g
    cases g with
    | stop => exact absurd rfl h1
    | one _ _ _ _ _ _ h => exact absurd rfl h
    | esc _ _ v' k' _ _ h g =>
      rw [he] at h
      cases h
      obtain ⟨rfl, rfl⟩ := ih g
      exact ⟨rfl, rfl⟩
theorem tok_not {l : List Nat} {k : Nat} {t : List Nat} {n j : Nat} (h : TokR l k t n j) : ¬ TokN l := by
  intro g
  cases h with
  | num c l v h1 h2 =>
    cases g with
    | num _ _ _ h => rw [h2] at h; cases h
    | long _ _ h => unfold LP at h; unfold DP at h1; omega
    | quo _ _ h => unfold DP at h1; omega
    | great _ _ _ _ h => unfold DP at h1; omega
    | sign _ _ h => exact h h1
  | word c l h1 h2 h3 =>
    cases g with
    | num _ _ h => unfold LP at h1; unfold DP at h; omega
    | long _ _ _ h => omega
    | quo _ _ h => unfold LP at h1; omega
    | great _ _ _ _ h => unfold LP at h1; omega
    | sign _ _ _ h => exact h h1
  | name c l h1 h2 h3 =>
    cases g with
    | num _ _ h => unfold LP at h1; unfold DP at h; omega
    | long _ _ _ h => omega
    | quo _ _ h => unfold LP at h1; omega
    | great _ _ _ _ h => unfold LP at h1; omega
    | sign _ _ _ h => exact h h1
  | quo c l t j h1 h2 h3 =>
    cases g with
    | num _ _ h => unfold DP at h; omega
    | long _ _ h => unfold LP at h; omega
    | quo _ _ _ h => exact quo_not h2 h
    | great _ _ t' j' _ h h4 =>
      obtain ⟨rfl, rfl⟩ := quo_one h2 h
      omega
    | sign _ _ _ _ h h' => omega
  | sign c l h1 h2 h3 h4 h5 =>
    cases g with
    | num _ _ h => exact h1 h
    | long _ _ h => exact h2 h
    | quo _ _ h => omega
    | great _ _ _ _ h => omega
    | sign _ _ _ _ _ _ h => exact h5 h
theorem tok_one {l : List Nat} {k k' : Nat} {t t' : List Nat} {n n' j j' : Nat} (h : TokR l k t n j) (g : TokR l k' t' n' j') : k' = k ∧ t' = t ∧ n' = n ∧ j' = j := by
  cases h with
  | num c l v h1 h2 =>
    cases g with
    | num _ _ _ _ h => rw [h2] at h; cases h; exact ⟨rfl, rfl, rfl, rfl⟩
    | word _ _ h => unfold LP at h; unfold DP at h1; omega
    | name _ _ h => unfold LP at h; unfold DP at h1; omega
    | quo _ _ _ _ h => unfold DP at h1; omega
    | sign _ _ h => exact absurd h1 h
  | word c l h1 h2 h3 =>
    cases g with
    | num _ _ _ h => unfold LP at h1; unfold DP at h; omega
    | word => exact ⟨rfl, rfl, rfl, rfl⟩
    | name _ _ _ _ h => exact absurd h3 h
    | quo _ _ _ _ h => unfold LP at h1; omega
    | sign _ _ _ h => exact absurd h1 h
  | name c l h1 h2 h3 =>
    cases g with
    | num _ _ _ h => unfold LP at h1; unfold DP at h; omega
    | word _ _ _ _ h => exact absurd h h3
    | name => exact ⟨rfl, rfl, rfl, rfl⟩
    | quo _ _ _ _ h => unfold LP at h1; omega
    | sign _ _ _ h => exact absurd h1 h
  | quo c l t j h1 h2 h3 =>
    cases g with
    | num _ _ _ h => unfold DP at h; omega
    | word _ _ h => unfold LP at h; omega
    | name _ _ h => unfold LP at h; omega
    | quo _ _ _ _ _ h =>
      obtain ⟨rfl, rfl⟩ := quo_one h2 h
      exact ⟨rfl, rfl, rfl, rfl⟩
    | sign _ _ _ _ h h' => omega
  | sign c l h1 h2 h3 h4 h5 =>
    cases g with
    | num _ _ _ h => exact absurd h h1
    | word _ _ h => exact absurd h h2
    | name _ _ h => exact absurd h h2
    | quo _ _ _ _ h => omega
    | sign => exact ⟨rfl, rfl, rfl, rfl⟩
theorem words_b8 : ∀ m ∈ wordsB, B8 m := fun m hm => b8_lit ((by decide : ∀ m ∈ wordsB, (m.all fun c => Nat.blt c 256) = true) m hm)
end Go.X
namespace Go.Proofs.YthmjeojcciefcaaDoor
open Go Go.X Go.Proofs.YthmjeojcciefcaaDoor.G
set_option maxRecDepth 100000
set_option maxHeartbeats 1600000
set_option linter.unusedVariables false
set_option linter.unusedSimpArgs false
variable {H : AH} {S : LS} {K : KF}
theorem wds_eq : wds = wordsB.map strA := by rfl
theorem hasW_A {t : List Nat} (h : B8 t) : hasW wds (strA t) = decide (t ∈ wordsB) := by
  rw [wds_eq]
  exact any_words (fun m hm => eqN_A h hm) wordsB words_b8
theorem g12_A {t : List Nat} (h : B8 t) (hM : Mem H S) (hT : TabS gl S) (hK : ∀ H' S', Mem H' S' → Ext S S' → K (.ret (.bool (decide (t ∈ wordsB)))) H') : g12 (strA t) H K := by
  refine g12_i hM hT fun H' S' h' x' => ?_
  have := hasW_A h
  unfold strA at this
  rw [this]
  exact hK H' S' h' x'
section
variable {S0 : LS} {H0 : AH} {v : AV} {acc : List Tok} {bt : Nat} {tc : List AV} {s : List Nat} {p : Nat} {i1 : AV → AV → AV → Int → AH → Prop}
/-- The end of a token: it is kept. -/
theorem f9_done (hM : Mem H S) {t : Tok} (hI : LxI S0 S v acc bt t.cs) (hal : acc.length ≤ 100000) {e : Nat} (hk : ∀ H' S' v', Mem H' S' → LxI S0 S' v' (acc ++ [t]) bt t.cs → i1 (strA s) v' (.ptr bt 0) (e : Int) H') :
    f9_q6 R9 K i1 (strA s) v (.ptr bt 0) (e : Int) H := by
  unfold f9_q6
  exact hI.push hM rfl hal fun H' S' v' h' i' => hk H' S' v' h' i'
theorem f9_done' (hM : Mem H S) {t : Tok} (hI : LxI S0 S v acc bt t.cs) (hal : acc.length ≤ 100000) {e : Nat} (hk : ∀ H' S' v', Mem H' S' → LxI S0 S' v' (acc ++ [t]) bt t.cs → i1 (strA s) v' (.ptr bt 0) (e : Int) H') :
    f9_q12 R9 K i1 (strA s) v (.ptr bt 0) (e : Int) H := by
  unfold f9_q12
  exact hI.push hM rfl hal fun H' S' v' h' i' => hk H' S' v' h' i'
def badL (K : KF) (S0 : LS) (p : Nat) : Prop := ∀ H' S', Mem H' S' → Ext S0 S' → K (.ret (.tup [.nslice, .int 0 14, .int 0 (p : Int)])) H'
theorem f9_wrong (hM : Mem H S) (hx : Ext S0 S) (hb : badL K S0 p) : f9_q5 R9 K (p : Int) H := by
  unfold f9_q5
  exact hb H S hM hx
/-- A number. -/
theorem f9_num (h8 : B8 s) (hs : s.length ≤ 16384) (hM0 : Mem H0 S0) (hT : TabS gl2 S0) (hM : Mem H S) {c : Nat} {l : List Nat} (hd : s.drop p = c :: l) (hc : DP c) (hI : LxI S0 S v acc bt (Tok.cs ⟨0, (c :: l).take (runL (c :: l)), 0, p⟩)) (hal : acc.length ≤ 100000)
    (h1 : ∀ n, numT ((c :: l).take (runL (c :: l))) = some n → ∀ H' S' v', Mem H' S' → LxI S0 S' v' (acc ++ [⟨3, [], n, p⟩]) bt (Tok.cs ⟨3, [], n, p⟩) → i1 (strA s) v' (.ptr bt 0) ((p + runL (c :: l) : Nat) : Int) H')
    (h2 : numT ((c :: l).take (runL (c :: l))) = none → badL K S0 p) : f9_p2 R9 K i1 (strA s) v (.ptr bt 0) (p : Int) ((p + runL (c :: l) : Nat) : Int) H := by
  show f9_q2 R9 K (f9_q10 R9 K (f9_q6 R9 K i1)) (f9_q5 R9 K) (strA s) v (.ptr bt 0) (p : Int) ((p + runL (c :: l) : Nat) : Int) H
  unfold f9_q2
  have hr := runL_pos (c := c) (l := l) (.inr hc)
  obtain ⟨r, er⟩ : ∃ r, (c :: l).take (runL (c :: l)) = c :: r := by
    obtain ⟨n, hn⟩ : ∃ n, runL (c :: l) = n + 1 := ⟨runL (c :: l) - 1, by omega⟩
    rw [hn]; exact ⟨_, rfl⟩
  have h8t : B8 (c :: r) := by rw [← er, ← hd]; exact (h8.drop p).take _
  have hlt : (c :: r).length ≤ 16384 := by
    rw [← er, ← hd]; simp; omega
  rw [er] at hI h1 h2
  refine hI.store hM (by omega) rfl fun H1 S1 m1 i1' => ?_
  refine i1'.load m1 rfl ?_
  rw [r9g]
  refine ⟨c, r, rfl, rfl, rfl, h8t, hlt, hc, ⟨S1, m1, hT.ext hM0 i1'.x⟩, ?_⟩
  cases en : numT (c :: r) with
  | some n =>
    simp only [cR_ret, onTup_t, nthK_0, nthK_s, cI_z]
    refine i1'.store m1 (by omega) rfl fun H2 S2 m2 i2 => ?_
    rw [pNilI_n, onB_b, bI_ff]
    refine i2.load m2 rfl ?_
    rw [r9b]
    have hall : ∀ x ∈ c :: r, DP x := by
      unfold numT at en
      split at en
      · rename_i g; exact g.1
      · cases en
    refine ⟨c :: r, 95, rfl, rfl, h8t, by omega, fun z hz => ?_⟩
    have : ¬ 0 ≤ z := fun g => by have := hall 95 (hz.1 g); unfold DP at this; omega
    simp only [cR_ret, cI_z, iLt_d]
    have e0 : Int.ofNat 0 = 0 := rfl
    rw [e0, decide_eq_true (by omega)]
    simp only [Bool.not_true, bI_ff]
    unfold f9_q10
    refine i2.store m2 (by omega) rfl fun H3 S3 m3 i3 => ?_
    exact f9_done (t := ⟨3, [], n, p⟩) m3 i3 hal (h1 n en)
  | none =>
    intro z t
    simp only [cR_ret, onTup_t, nthK_0, nthK_s, cI_z]
    refine i1'.store m1 (by omega) rfl fun H2 S2 m2 i2 => ?_
    rw [pNilI_i, onB_b, Bool.not_false, bI_tt]
    exact f9_wrong m2 i2.x (h2 en)
/-- A word or a name. -/
theorem f9_word (h8 : B8 s) (hs : s.length ≤ 16384) (hM0 : Mem H0 S0) (hT : TabS gl2 S0) (hM : Mem H S) {t : List Nat} (h8t : B8 t) {e : Nat} (hI : LxI S0 S v acc bt (Tok.cs ⟨0, t, 0, p⟩)) (hal : acc.length ≤ 100000)
    (h1 : t.length ≤ 32 → ∀ k, (k = 1 ∧ t ∈ wordsB ∨ k = 2 ∧ t ∉ wordsB) → ∀ H' S' v', Mem H' S' → LxI S0 S' v' (acc ++ [⟨k, t, 0, p⟩]) bt (Tok.cs ⟨k, t, 0, p⟩) → i1 (strA s) v' (.ptr bt 0) (e : Int) H')
    (h2 : 32 < t.length → badL K S0 p) : f9_p3 R9 K i1 (strA s) v (.ptr bt 0) (p : Int) (e : Int) H := by
  show f9_q3 R9 K (f9_q11 R9 K (f9_q5 R9 K) (f9_q6 R9 K i1)) (strA s) v (.ptr bt 0) (p : Int) (e : Int) H
  unfold f9_q3
  have e32 : Int.ofNat 32 = 32 := rfl
  have last : ∀ {H : AH} {S : LS} (k : Nat), Mem H S → LxI S0 S v acc bt (Tok.cs ⟨k, t, 0, p⟩) → (k = 1 ∧ t ∈ wordsB ∨ k = 2 ∧ t ∉ wordsB) → f9_q11 R9 K (f9_q5 R9 K) (f9_q6 R9 K i1) (strA s) v (.ptr bt 0) (p : Int) (e : Int) H := fun {H S} k hM hI hk => by
    unfold f9_q11
    refine hI.load hM rfl ?_
    simp only [sLen_A, cI_z, iLt_d]
    rw [e32]
    refine bI_dec (fun g => f9_wrong hM hI.x (h2 (by omega))) (fun g => ?_)
    exact f9_done (t := ⟨k, t, 0, p⟩) hM hI hal (h1 (by omega) k hk)
  refine hI.store hM (by omega) rfl fun H1 S1 m1 i1' => ?_
  refine i1'.load m1 rfl ?_
  rw [r9a]
  refine g12_A h8t m1 (gl2_gl (hT.ext hM0 i1'.x)) fun H2 S2 m2 x2 => ?_
  simp only [cR_ret, onB_b]
  have i2 := i1'.ext m1 x2
  refine bI_dec (fun g => ?_) (fun g => last 2 m2 i2 (.inr ⟨rfl, g⟩))
  refine i2.store m2 (by omega) rfl fun H3 S3 m3 i3 => ?_
  exact last 1 m3 i3 (.inl ⟨rfl, g⟩)
/-- A text between marks. -/
theorem f9_quoted (h8 : B8 s) (hs : s.length ≤ 16384) (hM : Mem H S) {c : Nat} {l : List Nat} (hd : s.drop p = c :: l) (hc : c = 34 ∨ c = 39) {t0 : List Nat} (hI : LxI S0 S v acc bt (Tok.cs ⟨0, t0, 0, p⟩)) (hal : acc.length ≤ 100000)
    (h1 : ∀ t j, Quo c l t j → t.length ≤ 4096 → ∀ H' S' v', Mem H' S' → LxI S0 S' v' (acc ++ [⟨4, t, 0, p⟩]) bt (Tok.cs ⟨4, t, 0, p⟩) → i1 (strA s) v' (.ptr bt 0) ((p + (j + 1) : Nat) : Int) H')
    (h2 : (QuoN c l ∨ ∃ t j, Quo c l t j ∧ 4096 < t.length) → badL K S0 p) : f9_p4 R9 K i1 (strA s) v (.ptr bt 0) (p : Int) H := by
  show f9_q4 R9 K (f9_q12 R9 K i1) (f9_q5 R9 K) (strA s) v (.ptr bt 0) (p : Int) H
  unfold f9_q4
  obtain ⟨g1, g2, g3⟩ := suf hd
  have h8' : B8 (c :: l) := by rw [← hd]; exact h8.drop p
  have hl' : (c :: l).length ≤ 16384 := by rw [← hd]; simp; omega
  refine hI.store hM (by omega) rfl fun H1 S1 m1 i1' => ?_
  refine drop_A h8 (by omega) ?_
  rw [r9h, hd]
  have e0 : Int.ofNat 0 = 0 := rfl
  refine g22_i h8' (by omega) hc m1 (fun t j hq ht H2 S2 m2 x2 => ?_) (fun hb H2 S2 m2 x2 => ?_)
  · have hj := hq.len
    simp only [List.length_cons] at hl'
    simp only [cR_ret, onTup_t, nthK_0, nthK_s, cI_z]
    have i2 := i1'.ext m1 x2
    refine i2.store m2 (by omega) rfl fun H3 S3 m3 i3 => ?_
    rw [iEq_d, e0, decide_eq_false (by omega), bI_ff]
    simp only [iadd]
    refine w0 (by omega) (by omega) ?_
    rw [show ((1 + j : Nat) : Int) + (p : Int) = ((p + (j + 1) : Nat) : Int) by omega]
    exact f9_done' (t := ⟨4, t, 0, p⟩) m3 i3 hal (h1 t j hq ht)
  · show cR K (.ret (.tup [.str 0 0, .int 0 0])) H2 _
    simp only [cR_ret, onTup_t, nthK_0, nthK_s, cI_z]
    have i2 := i1'.ext m1 x2
    refine i2.store m2 (by omega) rfl fun H3 S3 m3 i3 => ?_
    rw [iEq_d, e0, decide_eq_true rfl, bI_tt]
    exact f9_wrong m3 i3.x (h2 hb)
/-- A sign. -/
theorem f9_sign (h8 : B8 s) (hs : s.length ≤ 16384) (hM : Mem H S) {c : Nat} {l : List Nat} (hd : s.drop p = c :: l) {t0 : List Nat} (hI : LxI S0 S v acc bt (Tok.cs ⟨0, t0, 0, p⟩)) (hal : acc.length ≤ 100000)
    (h1 : sgnL (c :: l) ≠ 0 → ∀ H' S' v', Mem H' S' → LxI S0 S' v' (acc ++ [⟨5, (c :: l).take (sgnL (c :: l)), 0, p⟩]) bt (Tok.cs ⟨5, (c :: l).take (sgnL (c :: l)), 0, p⟩) → i1 (strA s) v' (.ptr bt 0) ((p + sgnL (c :: l) : Nat) : Int) H')
    (h2 : sgnL (c :: l) = 0 → badL K S0 p) : f9_p20 R9 K i1 (strA s) v (.ptr bt 0) (p : Int) H := by
  show f9_q20 R9 K (f9_q24 R9 K (f9_q5 R9 K) (f9_q6 R9 K i1)) (strA s) v (.ptr bt 0) (p : Int) H
  unfold f9_q20
  obtain ⟨g1, g2, g3⟩ := suf hd
  have h8' : B8 (c :: l) := by rw [← hd]; exact h8.drop p
  have hl' : (c :: l).length ≤ 16384 := by rw [← hd]; simp; omega
  have hsg := sgn_le (c :: l)
  refine drop_A h8 (by omega) ?_
  rw [r9f, hd]
  refine g20_i h8' hM fun H1 S1 m1 x1 => ?_
  rw [cR_ret]
  have i1' := hI.ext hM x1
  refine i1'.store m1 (by omega) rfl fun H2 S2 m2 i2 => ?_
  refine i2.store m2 (by omega) rfl fun H3 S3 m3 i3 => ?_
  refine i3.load m3 rfl ?_
  simp only [sLen_A, cI_z, iadd]
  have hlen : ((c :: l).take (sgnL (c :: l))).length = sgnL (c :: l) := by simp; simp at hsg; omega
  rw [hlen]
  refine w0 (by omega) (by omega) ?_
  unfold f9_q24
  rw [iEq_d]
  refine bI_dec (fun g => f9_wrong m3 i3.x (h2 (by omega))) (fun g => ?_)
  exact f9_done (t := ⟨5, (c :: l).take (sgnL (c :: l)), 0, p⟩) m3 i3 hal (h1 (by omega))
theorem not_DP_LP {c : Nat} (h : LP c) : ¬ DP c := by unfold DP; unfold LP at h; omega
/-- One token. -/
theorem f9_token (h8 : B8 s) (hs : s.length ≤ 16384) (hM0 : Mem H0 S0) (hT : TabS gl2 S0) (hM : Mem H S) {c : Nat} {l : List Nat} (hd : s.drop p = c :: l) (hI : LxI S0 S v acc bt (Tok.cs ⟨0, [], 0, p⟩)) (hal : acc.length ≤ 100000)
    (h1 : ∀ k t n j, TokR (c :: l) k t n j → ∀ H' S' v', Mem H' S' → LxI S0 S' v' (acc ++ [⟨k, t, n, p⟩]) bt (Tok.cs ⟨k, t, n, p⟩) → i1 (strA s) v' (.ptr bt 0) ((p + j : Nat) : Int) H')
    (h2 : TokN (c :: l) → badL K S0 p) : f9_p14 R9 K i1 (strA s) v (.ptr bt 0) (p : Int) ((p + runL (c :: l) : Nat) : Int) H := by
  show f9_q14 R9 K (f9_p25 R9 K i1) (f9_p2 R9 K i1) (strA s) v (.ptr bt 0) (p : Int) ((p + runL (c :: l) : Nat) : Int) H
  unfold f9_q14
  obtain ⟨g1, g2, g3⟩ := suf hd
  have hrl := runL_le (c :: l)
  have hsl : (c :: l).length = s.length - p := by rw [← hd]; simp
  refine sub_A (i := p) (j := p + runL (c :: l)) h8 (by omega) (by omega) ?_
  rw [hd, Nat.add_sub_cancel_left]
  have h8t : B8 ((c :: l).take (runL (c :: l))) := by rw [← hd]; exact (h8.drop p).take _
  refine hI.store hM (by omega) rfl fun H1 S1 m1 i1' => ?_
  have lenT : ((c :: l).take (runL (c :: l))).length = runL (c :: l) := by rw [List.length_take]; omega
  have p25 : ¬ DP c → f9_p25 R9 K i1 (strA s) v (.ptr bt 0) (p : Int) ((p + runL (c :: l) : Nat) : Int) H1 := fun hnd => by
    show f9_q25 R9 K (f9_p20 R9 K i1) (f9_p3 R9 K i1) (f9_p4 R9 K i1) (strA s) v (.ptr bt 0) (p : Int) ((p + runL (c :: l) : Nat) : Int) H1
    unfold f9_q25
    rw [iLt_d]
    refine bI_dec (fun g => ?_) (fun g => ?_)
    · have hlp : LP c := by
        by_cases hl : LP c
        · exact hl
        · have : runL (c :: l) = 0 := by
            unfold runL
            rw [if_neg (by rintro (q | q) <;> contradiction)]
          omega
      refine f9_word h8 hs hM0 hT m1 h8t i1' hal (fun ht k hk => ?_) (fun ht => h2 (.long c l hlp (by omega)))
      rcases hk with ⟨rfl, hk⟩ | ⟨rfl, hk⟩
      · exact h1 _ _ _ _ (.word c l hlp (by omega) hk)
      · exact h1 _ _ _ _ (.name c l hlp (by omega) hk)
    · have hnl : ¬ LP c := fun hl => by have := runL_pos (c := c) (l := l) (.inl hl); omega
      refine sIdx_A h8 g1 ?_
      have e34 : Int.ofNat 34 = 34 := rfl
      have e39 : Int.ofNat 39 = 39 := rfl
      simp only [cI_z, iEq_d]
      rw [e34, e39]
      have quo : c = 34 ∨ c = 39 → f9_p4 R9 K i1 (strA s) v (.ptr bt 0) (p : Int) H1 := fun hc => by
        refine f9_quoted (t0 := (c :: l).take (runL (c :: l))) h8 hs m1 hd hc i1' hal (fun t j hq ht => h1 _ _ _ _ (.quo c l t j hc hq ht)) (fun hb => ?_)
        rcases hb with hb | ⟨t, j, hq, ht⟩
        · exact h2 (.quo c l hc hb)
        · exact h2 (.great c l t j hc hq ht)
      refine bI_dec (fun g4 => quo (by omega)) (fun g4 => ?_)
      refine sIdx_A h8 g1 ?_
      simp only [cI_z]
      refine bI_dec (fun g5 => quo (by omega)) (fun g5 => ?_)
      exact f9_sign (t0 := (c :: l).take (runL (c :: l))) h8 hs m1 hd i1' hal (fun hz => h1 _ _ _ _ (.sign c l hnd hnl (by omega) (by omega) hz)) (fun hz => h2 (.sign c l hnd hnl (by omega) (by omega) hz))
  rw [iLt_d]
  refine bI_dec (fun g => ?_) (fun g => p25 fun hdp => ?_)
  · refine sIdx_A h8 g1 ?_
    simp only [cI_z]
    rw [r9e]
    refine f19_i fun b hb => ?_
    simp only [cR_ret, onB_b]
    refine bI_i (fun eb => ?_) (fun eb => p25 fun hdp => ?_)
    · have hdp := hb.1 eb
      exact f9_num h8 hs hM0 hT m1 hd hdp i1' hal (fun n hn => h1 _ _ _ _ (.num c l n hdp hn)) (fun hn => h2 (.num c l hdp hn))
    · have := hb.2 hdp
      rw [this] at eb; cases eb
  · have := runL_pos (c := c) (l := l) (.inr hdp)
    omega
/-- A new round. -/
theorem f9_goto {q : Nat} {a : AV} (h : f9_l8 R9 K (f9_l1 R9 K q) G.NL a v (.ptr bt 0) (p : Int) H) : f9_l1 R9 K (q + 1) a v (.ptr bt 0) (p : Int) H := by
  show f9_q1 R9 K (f9_l8 R9 K (f9_l1 R9 K q) G.NL) a v (.ptr bt 0) (p : Int) H
  unfold f9_q1
  exact h
theorem LxP.tok {k : Nat} {t : List Nat} {n : Nat} {ts : List Tok} (h : LxP K S0 acc (.inl (⟨k, t, n, p⟩ :: ts))) : LxP K S0 (acc ++ [⟨k, t, n, p⟩]) (.inl ts) :=
  fun H' S' v' m x f o => h H' S' v' m x (by rw [List.append_assoc] at f; exact f) o
theorem f9_all (h8 : B8 s) (hs : s.length ≤ 16384) (hM0 : Mem H0 S0) (hT : TabS gl2 S0) {l : List Nat} {p : Nat} {r : List Tok ⊕ Nat} (hr : LexR l p r) :
    l = s.drop p → p ≤ s.length → ∀ (q1 q8 : Nat), s.length - p < q1 → s.length - p < q8 → ∀ (acc : List Tok) (v : AV) (tc : List AV) (H : AH) (S : LS), Mem H S → LxI S0 S v acc bt tc → acc.length ≤ p → LxP K S0 acc r →
      f9_l8 R9 K (f9_l1 R9 K q1) q8 (strA s) v (.ptr bt 0) (p : Int) H := by
  have hNL : G.NL = 1000000 := rfl
  induction hr with
  | nil p =>
    intro hl hp q1 q8 hq1 hq8 acc v tc H S hM hI ha hP
    obtain ⟨q8, rfl⟩ : ∃ q, q8 = q + 1 := ⟨q8 - 1, by omega⟩
    have : p = s.length := by
      have := congrArg List.length hl
      simp at this
      omega
    exact f9_end h8 hs hM hI this ha hP q8
  | blank c l p r hc _ ih =>
    intro hl hp q1 q8 hq1 hq8 acc v tc H S hM hI ha hP
    obtain ⟨q8, rfl⟩ : ∃ q, q8 = q + 1 := ⟨q8 - 1, by omega⟩
    obtain ⟨g1, g2, g3⟩ := suf hl.symm
    exact f9_blank h8 hs hl.symm hc (ih g3.symm (by omega) q1 q8 (by omega) (by omega) acc v tc H S hM hI (by omega) hP)
  | remark l p r _ ih =>
    intro hl hp q1 q8 hq1 hq8 acc v tc H S hM hI ha hP
    obtain ⟨q8, rfl⟩ : ∃ q, q8 = q + 1 := ⟨q8 - 1, by omega⟩
    obtain ⟨q1, rfl⟩ : ∃ q, q1 = q + 1 := ⟨q1 - 1, by omega⟩
    obtain ⟨g1, g2, g3⟩ := suf hl.symm
    have hll := lineL_le (45 :: 45 :: l)
    have h1 : 1 ≤ lineL (45 :: 45 :: l) := by unfold lineL; simp
    have hsl : (45 :: 45 :: l).length = s.length - p := by rw [hl]; simp
    refine f9_remark h8 hs hl.symm (f9_goto ?_)
    exact ih (by rw [hl, List.drop_drop]) (by omega) q1 G.NL (by omega) (by omega) acc v tc H S hM hI (by omega) hP
  | wrong c l p h1 h2 hn =>
    intro hl hp q1 q8 hq1 hq8 acc v tc H S hM hI ha hP
    obtain ⟨q8, rfl⟩ : ∃ q, q8 = q + 1 := ⟨q8 - 1, by omega⟩
    obtain ⟨g1, g2, g3⟩ := suf hl.symm
    refine f9_pre h8 hs hM hI hl.symm h1 h2 fun H1 S1 m1 i1' => ?_
    refine f9_run h8 hs ?_ G.NL p (by omega) (by omega) rfl
    rw [← hl]
    refine f9_token h8 hs hM0 hT m1 hl.symm i1' (by omega) (fun k t n j ht => ?_) (fun _ => hP)
    exact absurd hn (tok_not ht)
  | tok c l p k t n j ts h1 h2 ht _ ih =>
    intro hl hp q1 q8 hq1 hq8 acc v tc H S hM hI ha hP
    obtain ⟨q8, rfl⟩ : ∃ q, q8 = q + 1 := ⟨q8 - 1, by omega⟩
    obtain ⟨q1, rfl⟩ : ∃ q, q1 = q + 1 := ⟨q1 - 1, by omega⟩
    obtain ⟨g1, g2, g3⟩ := suf hl.symm
    have hj := ht.len
    have hsl : (c :: l).length = s.length - p := by rw [hl]; simp
    refine f9_pre h8 hs hM hI hl.symm h1 h2 fun H1 S1 m1 i1' => ?_
    refine f9_run h8 hs ?_ G.NL p (by omega) (by omega) rfl
    rw [← hl]
    refine f9_token h8 hs hM0 hT m1 hl.symm i1' (by omega) (fun k' t' n' j' ht' H2 S2 v2 m2 i2 => ?_) (fun hn => absurd hn (tok_not ht))
    obtain ⟨rfl, rfl, rfl, rfl⟩ := tok_one ht ht'
    refine f9_goto ?_
    exact ih (by rw [hl, List.drop_drop]) (by omega) q1 G.NL (by omega) (by omega) _ v2 _ H2 S2 m2 i2 (by simp; omega) hP.tok
  | bad c l p k t n j e h1 h2 ht _ ih =>
    intro hl hp q1 q8 hq1 hq8 acc v tc H S hM hI ha hP
    obtain ⟨q8, rfl⟩ : ∃ q, q8 = q + 1 := ⟨q8 - 1, by omega⟩
    obtain ⟨q1, rfl⟩ : ∃ q, q1 = q + 1 := ⟨q1 - 1, by omega⟩
    obtain ⟨g1, g2, g3⟩ := suf hl.symm
    have hj := ht.len
    have hsl : (c :: l).length = s.length - p := by rw [hl]; simp
    refine f9_pre h8 hs hM hI hl.symm h1 h2 fun H1 S1 m1 i1' => ?_
    refine f9_run h8 hs ?_ G.NL p (by omega) (by omega) rfl
    rw [← hl]
    refine f9_token h8 hs hM0 hT m1 hl.symm i1' (by omega) (fun k' t' n' j' ht' H2 S2 v2 m2 i2 => ?_) (fun hn => absurd hn (tok_not ht))
    obtain ⟨rfl, rfl, rfl, rfl⟩ := tok_one ht ht'
    refine f9_goto ?_
    exact ih (by rw [hl, List.drop_drop]) (by omega) q1 G.NL (by omega) (by omega) _ v2 _ H2 S2 m2 i2 (by simp; omega) hP
theorem t23 : f9_p23 R9 K = f9_p13 R9 K (f9_l1 R9 K G.NL) := by unfold f9_p23 f9_p13 f9_q23 f9_q13; rfl
theorem t27 : ∀ n, f9_l27 R9 K n = f9_l15 R9 K (f9_l1 R9 K G.NL) n
  | 0 => by unfold f9_l27 f9_l15; rfl
  | n + 1 => by
    show f9_q27 R9 K (f9_l27 R9 K n) (f9_p23 R9 K) = f9_q15 R9 K (f9_l15 R9 K (f9_l1 R9 K G.NL) n) (f9_p13 R9 K (f9_l1 R9 K G.NL))
    rw [t27 n, t23]
    unfold f9_q27 f9_q15
    rfl
theorem t32 : f9_p32 R9 K = f9_p24 R9 K (f9_l1 R9 K G.NL) := by unfold f9_p32 f9_p24 f9_q32 f9_q24; rfl
theorem t30 : f9_p30 R9 K = f9_p20 R9 K (f9_l1 R9 K G.NL) := by unfold f9_p30 f9_p20; rw [t32]; unfold f9_q30 f9_q20; rfl
theorem t33 : f9_p33 R9 K = f9_p25 R9 K (f9_l1 R9 K G.NL) := by unfold f9_p33 f9_p25; rw [t30]; unfold f9_q33 f9_q25; rfl
theorem t26 : f9_p26 R9 K = f9_p14 R9 K (f9_l1 R9 K G.NL) := by unfold f9_p26 f9_p14; rw [t33]; unfold f9_q26 f9_q14; rfl
theorem t29 : ∀ n, f9_l29 R9 K n = f9_l18 R9 K (f9_l1 R9 K G.NL) n
  | 0 => by unfold f9_l29 f9_l18; rfl
  | n + 1 => by
    show f9_q29 R9 K (f9_l29 R9 K n) (f9_p26 R9 K) = f9_q18 R9 K (f9_l18 R9 K (f9_l1 R9 K G.NL) n) (f9_p14 R9 K (f9_l1 R9 K G.NL))
    rw [t29 n, t26]
    unfold f9_q29 f9_q18
    rfl
theorem t19 : f9_p19 R9 K = f9_p9 R9 K (f9_l1 R9 K G.NL) := by unfold f9_p19 f9_p9; rw [t29]; unfold f9_q19 f9_q9; rfl
theorem t16 : f9_p16 R9 K = f9_p7 R9 K (f9_l1 R9 K G.NL) := by unfold f9_p16 f9_p7; rw [t27, t19]; unfold f9_q16 f9_q7; rfl
theorem f9_two : ∀ n, f9_l17 R9 K n = f9_l8 R9 K (f9_l1 R9 K G.NL) n
  | 0 => by unfold f9_l17 f9_l8; rfl
  | n + 1 => by
    show f9_q17 R9 K (f9_l17 R9 K n) (f9_p16 R9 K) = f9_q8 R9 K (f9_l8 R9 K (f9_l1 R9 K G.NL) n) (f9_p7 R9 K (f9_l1 R9 K G.NL))
    rw [f9_two n, t16]
    unfold f9_q17 f9_q8
    rfl
theorem g9_i (h8 : B8 s) (hs : s.length ≤ 16384) (hM : Mem H S) (hT : TabS gl2 S) {r : List Tok ⊕ Nat} (hr : LexR s 0 r) (hP : LxP K S [] r) : g9 (strA s) H K := by
  show f9_q0 R9 K (f9_l17 R9 K G.NL) (strA s) H
  unfold f9_q0
  simp only [sLen_A, cI_z, iLt_d]
  have e : Int.ofNat 16384 = 16384 := rfl
  rw [e, decide_eq_false (by omega), bI_ff]
  refine onAH_i (pNew_i hM (fun a ha => ?_) fun H1 m1 => ?_)
  · simp only [List.mem_cons, List.not_mem_nil, or_false] at ha
    rcases ha with rfl | rfl | rfl | rfl <;> rfl
  · rw [f9_two]
    have hNL : G.NL = 1000000 := rfl
    exact f9_all h8 hs hM hT hr rfl (Nat.zero_le _) G.NL G.NL (by omega) (by omega) [] .nslice _ H1 _ m1 ⟨Ext.push _ _, FrS.nil _ _, fun _ h => h.elim, LS.push_ob_self _ _, rfl, Nat.le_refl _, fun h => h⟩ (Nat.le_refl _) hP
end
end Go.Proofs.YthmjeojcciefcaaDoor
