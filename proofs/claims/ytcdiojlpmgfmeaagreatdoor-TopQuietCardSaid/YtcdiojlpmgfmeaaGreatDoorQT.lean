/- The law's argument: a slice of events. No condition. -/
import Derived.Test.YtcdiojlpmgfmeaaGreatDoorQS
import Derived.OpenShut
import Derived.ChangeMaps5
import Derived.ProofKit
import Derived.ChangeVars
import Derived.Deep.Slices
namespace Go.Proofs.YtcdiojlpmgfmeaaGreatDoor.Q
open Go Go.RowKit Go.Proofs Go.Maps Go.WideMaps Go.ChangeMaps
open Go.ChangeShapes Go.WideShapes
set_option maxRecDepth 100000
set_option linter.unusedSimpArgs false
set_option linter.unusedVariables false
/-! ### Arguments -/
section
open Go.Deep
variable {H : Type} {enc : TypeId × Value → H} {P : Program} {w : World}
theorem fields_ok {fs : Array Field} (h : ((List.range fs.size).all fun j => match fs[j]? with | some f => Nat.beq f.offset j && Nat.beq (P.cellsOf f.type) 1 | none => true) = true) : ∀ (j : Nat) (f : Field), fs[j]? = some f → f.offset = j ∧ P.cellsOf f.type = 1 := fun j f hj => by
  have h1 := List.all_eq_true.1 h j (List.mem_range.2 (Array.getElem?_eq_some_iff.1 hj).1)
  rw [hj] at h1
  simp only [Bool.and_eq_true] at h1
  exact ⟨Nat.eq_of_beq_eq_true h1.1, Nat.eq_of_beq_eq_true h1.2⟩
/-- A slice of structs whose fields have one cell each. -/
theorem open_structs {r : Reach} {b0 : Nat} {t e k : Nat} {fs : Array Field} {v : Value} {d : DataW H} {ps : List MemPlace} (ht : P.underlying t = some (.slice e)) (he : P.underlying e = some (.struct fs)) (hc : P.cellsOf e = k) (hk : 0 < k)
    (hfs : ∀ (j : Nat) (f : Field), fs[j]? = some f → f.offset = j ∧ P.cellsOf f.type = 1) (hfk : fs.size = k) (hv : Value.okWide P w r b0 t v) (hd : DataW.Trod enc P w 0 (fun _ => true) true t v d ps) :
    v = .slice none 0 0 ∨ ∃ b x len cap, v = .slice (some ⟨b, x, none⟩) len cap ∧ len ≤ cap ∧ cap ≤ maxLen ∧ (∃ cur ty fr, w.heap[b]? = some (.cells cur ty fr) ∧ (0 < cap → x + cap * k ≤ cur.size) ∧
      ∀ (i j : Nat) (f : Field), i < cap → fs[j]? = some f → ∃ u n y, cur[x + i * k + j]? = some u ∧ DataW.trod enc P w 0 (fun _ => true) true n f.type [u] = some y) := by
  obtain ⟨a0, len0, cap0, rfl⟩ := WideShapes.okWide_slice ht hv
  obtain ⟨fuel, hf⟩ := hd
  rcases open_slice ht hf with ⟨hcs, _⟩ | ⟨a, len, cap, m, n, D, Pl, hcs, _, hl, hm, hmm, _, hx⟩
  · have hcs' : [Value.slice a0 len0 cap0] = [Value.slice none 0 0] := hcs
    exact .inl (List.cons.inj hcs').1
  · have hcs' : [Value.slice a0 len0 cap0] = [Value.slice (some a) len cap] := hcs
    obtain ⟨rfl, rfl, rfl⟩ : some a = a0 ∧ len = len0 ∧ cap = cap0 := by have := (List.cons.inj hcs').1; cases this; exact ⟨rfl, rfl, rfl⟩
    have hmm' : cap = m := by simpa using hmm.symm
    subst hmm'
    right
    simp only [Value.okWide, ht, Cell.okWide, Cell.ok] at hv
    obtain ⟨_, _, _, hsp, row, cells, hsh, _⟩ := hv
    obtain ⟨ab, ao, asp⟩ := a
    simp only at hsp
    subst hsp
    refine ⟨ab, ao, len, cap, rfl, hl, hm, ?_⟩
    unfold World.shape? at hsh
    split at hsh
    · rename_i cur ty fr hh
      refine ⟨cur, ty, fr, hh, ?_⟩
      have each : ∀ i j, i < cap → j < k → ∃ u, cur[ao + i * k + j]? = some u ∧ ∀ f, fs[j]? = some f → ∃ n y, DataW.trod enc P w 0 (fun _ => true) true n f.type [u] = some y := fun i j hi hj => by
        obtain ⟨cs', h1, h2⟩ := hx i hi
        rw [hc] at h1
        obtain ⟨_, hlen, hcell⟩ := World.cells?_some h1
        have hu : cs'[j]? = some cs'[j] := List.getElem?_eq_getElem (by omega)
        have hc1 := hcell j hj
        rw [hu] at hc1
        have ha : ∀ q : Nat, (Addr.add ⟨ab, ao, none⟩ q) = ⟨ab, ao + q, none⟩ := fun q => by
          unfold Addr.add
          split
          · rename_i h; subst h; rfl
          · rfl
        rw [ha] at hc1
        have ha2 : (Addr.add ⟨ab, ao + i * k, none⟩ j) = ⟨ab, ao + i * k + j, none⟩ := by
          unfold Addr.add
          split
          · rename_i h; rw [h]; rfl
          · rfl
        rw [ha2] at hc1
        unfold World.cell? at hc1
        simp only [hh] at hc1
        refine ⟨cs'[j], by simpa using hc1, fun f hfj => ?_⟩
        obtain ⟨xs, n', _, _, hcl, hxl, hff⟩ := DataW.trod_struct he h2
        have h3 := hff j f hfj
        obtain ⟨o1, o2⟩ := hfs j f hfj
        rw [o1, o2] at h3
        have h4 : (cs'.drop j).take 1 = [cs'[j]] := by rw [List.drop_eq_getElem_cons (by omega)]; rfl
        rw [h4, List.getElem?_eq_getElem (by omega)] at h3
        exact ⟨n', _, h3⟩
      refine ⟨fun hcap => ?_, fun i j f hi hj => ?_⟩
      · obtain ⟨u, hu, _⟩ := each (cap - 1) (k - 1) (by omega) (by omega)
        have := (Array.getElem?_eq_some_iff.1 hu).1
        have e : (cap - 1) * k + k = cap * k := by rw [← Nat.succ_mul]; congr 1; omega
        omega
      · have hjk : j < k := by rw [← hfk]; exact (Array.getElem?_eq_some_iff.1 hj).1
        obtain ⟨u, hu, hg⟩ := each i j hi hjk
        obtain ⟨n, y, hy⟩ := hg f hj
        exact ⟨u, n, y, hu, hy⟩
    · cases hsh
end

theorem arg_row {H : Type} {enc : TypeId × Value → H} {W : World} {r : Reach} {b0 : Nat} {v : Value} {d : DataW H} {ps : List MemPlace} (hv : Value.okWide Tryz.prog W r b0 34 v) (hd : DataW.Trod enc Tryz.prog W 0 (fun _ => true) true 34 v d ps) :
    ∃ a cap l, v = .slice a l.length cap ∧ Row W a l ∧ l.length ≤ 9223372036854775807 ∧ ∀ e ∈ l, e.b.size ≤ 9223372036854775807 := by
  rcases open_structs (k := 5) Tryz.underlying34 Tryz.underlying29 (by kernel_rfl) (by omega) (fields_ok (by kernel_rfl)) rfl hv hd with rfl | ⟨b, x, len, cap, rfl, hl, hm, cur, ty, ⟨lo, hi⟩, hb, hsz, hx⟩
  · exact ⟨none, 0, [], rfl, ⟨fun i e he => by cases he⟩, Nat.zero_le _, fun e he => by cases he⟩
  · have each : ∀ i, ∃ e : Ev, i < len → e.b.size ≤ 9223372036854775807 ∧ ∀ c u, e.cells[c]? = some u → W.cell? ⟨b, x + i * 5 + c, none⟩ = some u := fun i => by
      by_cases hi : i < len
      · obtain ⟨u0, n0, y0, h0, g0⟩ := hx i 0 _ (by omega) rfl
        obtain ⟨u1, n1, y1, h1, g1⟩ := hx i 1 _ (by omega) rfl
        obtain ⟨u2, n2, y2, h2, g2⟩ := hx i 2 _ (by omega) rfl
        obtain ⟨u3, n3, y3, h3, g3⟩ := hx i 3 _ (by omega) rfl
        obtain ⟨u4, n4, y4, h4, g4⟩ := hx i 4 _ (by omega) rfl
        obtain ⟨z0, e0, _, w0⟩ := DataW.trod_int Tryz.underlying3 g0
        obtain ⟨z1, e1, _, w1⟩ := DataW.trod_int Tryz.underlying3 g1
        obtain ⟨z2, e2, _, w2⟩ := DataW.trod_int Tryz.underlying3 g2
        obtain ⟨s, e3, _, w3⟩ := DataW.trod_string Tryz.underlying9 g3
        obtain ⟨bo, e4, _⟩ := DataW.trod_bool Tryz.underlying4 g4
        simp only [List.cons.injEq, and_true] at e0 e1 e2 e3 e4
        subst e0; subst e1; subst e2; subst e3; subst e4
        have cell : ∀ {o : Nat} {u : Value}, cur[o]? = some u → W.cell? ⟨b, o, none⟩ = some u := fun h => by
          unfold World.cell?
          simp only [hb]
          exact h
        refine ⟨⟨z0, z1, z2, s, bo⟩, fun _ => ⟨w3, fun c u hu => ?_⟩⟩
        match c, hu with
        | 0, hu => obtain rfl := Option.some.inj hu; exact cell h0
        | 1, hu => obtain rfl := Option.some.inj hu; exact cell h1
        | 2, hu => obtain rfl := Option.some.inj hu; exact cell h2
        | 3, hu => obtain rfl := Option.some.inj hu; exact cell h3
        | 4, hu => obtain rfl := Option.some.inj hu; exact cell h4
        | c + 5, hu => simp [Ev.cells] at hu
      · exact ⟨⟨0, 0, 0, ⟨#[]⟩, false⟩, fun h => absurd h hi⟩
    have hE := fun i => Classical.choose_spec (each i)
    have hbz : b < W.heap.size := (Array.getElem?_eq_some_iff.1 hb).1
    have hmx : cap ≤ 9223372036854775807 := hm
    have hget : ∀ i e, ((List.range len).map fun i => Classical.choose (each i))[i]? = some e → i < len ∧ e = Classical.choose (each i) := fun i e he => by
      rw [List.getElem?_map] at he
      by_cases hi : i < len
      · rw [List.getElem?_range hi] at he
        exact ⟨hi, (Option.some.inj he).symm⟩
      · rw [List.getElem?_eq_none (by simp; omega)] at he
        cases he
    refine ⟨some ⟨b, x, none⟩, cap, (List.range len).map fun i => Classical.choose (each i), by simp, ⟨fun i e he => ?_⟩, by simp; omega, fun e he => ?_⟩
    · obtain ⟨hi, rfl⟩ := hget i e he
      have h := (hE i hi).2
      exact ⟨b, x, rfl, hbz, h 0 _ rfl, h 1 _ rfl, h 2 _ rfl, h 3 _ rfl, h 4 _ rfl⟩
    · obtain ⟨i, hi⟩ := List.getElem?_of_mem he
      obtain ⟨hi', rfl⟩ := hget i e hi
      exact (hE i hi').1
end Go.Proofs.YtcdiojlpmgfmeaaGreatDoor.Q
