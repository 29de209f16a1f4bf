/- Bytes put behind a client's bytes: contracts. No condition. -/
import Derived.Test.YtcdiojlpmgfmeaaGreatDoorQE
import Derived.Lib.AppendStr
namespace Go.Proofs.YtcdiojlpmgfmeaaGreatDoor.Q
open Go Go.RowKit Go.Proofs Go.Lib
set_option maxRecDepth 100000
set_option linter.unusedSimpArgs false
set_option linter.unusedVariables false
/-- A slice of bytes that the server made: nil, or a whole row from block 'base' on. -/
def GoodIn (W : World) (base : Nat) (v : Value) (n : Nat) : Prop :=
  (v = .slice none 0 0 ∧ n = 0) ∨ ∃ g cap cur, v = .slice (some ⟨g, 0, none⟩) n cap ∧ base ≤ g ∧ W.heap[g]? = some (.cells cur 5 (0, 0)) ∧ n ≤ cap ∧ cap ≤ maxLen ∧ cur.size = cap
/-- Rows of bytes from 'base' on may have other bytes; there may be new blocks; all else is as it was. -/
structure Byt (base : Nat) (w w' : World) : Prop where
  os : w'.os = w.os
  tape : w'.tape = w.tape
  output : w'.output = w.output
  size : w.heap.size ≤ w'.heap.size
  block : ∀ k, k < w.heap.size → w'.heap[k]? = w.heap[k]? ∨ base ≤ k ∧ ∃ cur cur', w.heap[k]? = some (.cells cur 5 (0, 0)) ∧ w'.heap[k]? = some (.cells cur' 5 (0, 0)) ∧ cur'.size = cur.size
theorem Byt.refl (base : Nat) (w : World) : Byt base w w := ⟨rfl, rfl, rfl, Nat.le_refl _, fun _ _ => .inl rfl⟩
theorem Byt.old {base : Nat} {w w' : World} (h : Byt base w w') {k : Nat} (hk : k < base) (hz : base ≤ w.heap.size) : w'.heap[k]? = w.heap[k]? :=
  (h.block k (Nat.lt_of_lt_of_le hk hz)).elim id fun ⟨e, _⟩ => absurd hk (by omega)
theorem GoodIn.keep {base : Nat} {w w' : World} {v : Value} {n : Nat} (h : Byt base w w') (g : GoodIn w base v n) : GoodIn w' base v n := by
  rcases g with g | ⟨b, cap, cur, h1, h2, h3, h4, h5, h6⟩
  · exact .inl g
  · have hb : b < w.heap.size := (Array.getElem?_eq_some_iff.1 h3).1
    rcases h.block b hb with e | ⟨_, c, c', e1, e2, e3⟩
    · exact .inr ⟨b, cap, cur, h1, h2, e.trans h3, h4, h5, h6⟩
    · rw [h3] at e1
      cases e1
      exact .inr ⟨b, cap, c', h1, h2, e2, h4, h5, e3.trans h6⟩
theorem GoodIn.len {base : Nat} {w : World} {v : Value} {n : Nat} (g : GoodIn w base v n) : ∃ a cap, v = .slice a n cap := by
  rcases g with ⟨rfl, rfl⟩ | ⟨b, cap, cur, rfl, _⟩
  · exact ⟨none, 0, rfl⟩
  · exact ⟨_, _, rfl⟩
theorem info8 : (Tryz.prog.info? 5).map (fun i => (i.zero, i.size, i.bytes)) = some (some (.int .u8 0), 1, 1) := by kernel_rfl
theorem append_good {w : World} {base : Nat} {v : Value} {n : Nat} (ty : TypeId) (g : GoodIn w base v n) (s : ByteArray) (hn : n ≤ 65536) (hs : s.size ≤ 65536) (hbase : base ≤ w.heap.size) :
    ∃ v' w', (Builtin.append_ #[110, 9] ty #[v, .string s]).run Tryz.prog w = .ok v' w' ∧ GoodIn w' base v' (n + s.size) ∧ Byt base w w' := by
  obtain ⟨i, hi, hz, hsize, hby⟩ := info_parts info8
  have ht := Tryz.underlying110
  have hu := Tryz.underlying9
  have grown : ∀ (old : Nat) (xs : List Value), xs.length = n → old < n + s.size →
      GoodIn (w.drew.alloc (.cells (xs.toArray ++ (strCells s).toArray ++ Builtin.zeroCells (Value.int .u8 0).cells (grownCap w (n + s.size) old 5 - (n + s.size))) 5)) base
        (.slice (some ⟨w.heap.size, 0, none⟩) (n + s.size) (grownCap w (n + s.size) old 5)) (n + s.size) ∧
      Byt base w (w.drew.alloc (.cells (xs.toArray ++ (strCells s).toArray ++ Builtin.zeroCells (Value.int .u8 0).cells (grownCap w (n + s.size) old 5 - (n + s.size))) 5)) := by
    intro old xs hxl ho
    have hge := grownCap_ge w (n + s.size) old 5
    have hcm : grownCap w (n + s.size) old 5 ≤ maxLen := grownCap_le_maxLen w (n + s.size) old 5 (by unfold maxLen; omega)
    refine ⟨.inr ⟨w.heap.size, _, _, rfl, hbase, heap_alloc_new w.drew _, hge, hcm, ?_⟩, ⟨rfl, rfl, rfl, by simp, fun k hk => .inl (Below.heap_alloc w.drew _ k hk)⟩⟩
    have hz1 : (Value.int IntKind.u8 0).cells.size = 1 := rfl
    simp only [Array.size_append, List.size_toArray, size_zeroCells, hz1, hxl, strCells_length]
    omega
  rcases g with ⟨rfl, rfl⟩ | ⟨b, cap, cur, rfl, hbg, hg, hnc, hcm, hcs⟩
  · by_cases hm : s.size = 0
    · have hnn : strCells s = [] := List.eq_nil_of_length_eq_zero (by rw [strCells_length]; exact hm)
      refine ⟨.slice none 0 0, w, ?_, .inl ⟨rfl, by omega⟩, .refl _ _⟩
      have hf := run_firstCells_string (P := Tryz.prog) w 1 s
      rw [hm] at hf
      simp [Builtin.append_, run_underlying ht, run_underlying hu, sizeOf, typeInfo, hi, hsize, Builtin.lenOf, hm, hf]
    · have hr := run_append_nil_string (P := Tryz.prog) w 110 9 ty 5 i (.int .u8 0) ht hu hi hz s (by omega) (by omega) (by rw [hby]; omega)
      have hgr := grown 0 [] rfl (by omega)
      simp only [Nat.zero_add, List.nil_append, Array.empty_append] at hgr ⊢
      have e1 : (s.data.map fun b => Value.int .u8 b.toNat) = (strCells s).toArray := by
        apply Array.ext'
        simp [strCells]
      rw [e1] at hr
      exact ⟨_, _, hr, hgr.1, hgr.2⟩
  · by_cases hroom : n + s.size ≤ cap
    · have hr := run_append_room_string (P := Tryz.prog) w 110 9 ty 5 i ht hu hi hsize b n cap cur hg s hroom (by omega)
      refine ⟨_, _, hr, .inr ⟨b, cap, _, rfl, hbg, setRow_heap w b cur _ 5 _ hg, hroom, hcm, ?_⟩, ⟨rfl, rfl, rfl, by simp, fun k hk => ?_⟩⟩
      · simp only [List.size_toArray, List.length_append, List.length_take, List.length_drop, Array.length_toList, strCells_length]
        omega
      · by_cases e : k = b
        · subst e
          refine .inr ⟨hbg, cur, _, hg, setRow_heap w k cur _ 5 _ hg, ?_⟩
          simp only [List.size_toArray, List.length_append, List.length_take, List.length_drop, Array.length_toList, strCells_length]
          omega
        · exact .inl (setRow_other w b k _ e)
    · have hcells : ∀ j u, (cur.toList.take n)[j]? = some u → w.cell? ((⟨b, 0, none⟩ : Addr).add j) = some u := by
        intro j u hj
        have h1 : (⟨b, 0, none⟩ : Addr).add j = ⟨b, j, none⟩ := by simp [Addr.add_lit]
        rw [h1]
        unfold World.cell?
        rw [hg]
        rw [List.getElem?_take] at hj
        split at hj
        · simpa using hj
        · cases hj
      have hl : (cur.toList.take n).length = n := by simp; omega
      have hr := run_append_grow_string (P := Tryz.prog) w 110 9 ty 5 i (.int .u8 0) ht hu hi hz ⟨b, 0, none⟩ n cap (cur.toList.take n) (by rw [hsize, hl]; omega) hcells s (by omega) (by omega) (by rw [hby]; exact growslice_fits (by omega) (by omega))
      have hgr := grown cap (cur.toList.take n) hl (by omega)
      exact ⟨_, _, hr, hgr.1, hgr.2⟩
/-- An append whose run is known. -/
theorem wpList_append_run {P : Program} {w w' : World} {ops : Array Oper} {rest : List Oper} {o : Oper} {a : Act} {Q : Exit → Act → World → Prop} (hgd : o.guard = none) (sl x : Operand) (t u : TypeId)
    (ho : o.op = .call { callee := .builtin .append, args := #[sl, x], argTypes := #[t, u] }) {v v' y : Value} (hs : a.eval sl = v) (hx : a.eval x = y)
    (hrun : (Builtin.append_ #[t, u] o.type #[v, y]).run P w = .ok v' w') (h : wpList P ops Q rest (a.put o.dst v') w') : wpList P ops Q (o :: rest) a w := by
  refine wpList_plain hgd fun K hK => ?_
  unfold Oper.wp execOp
  simp only [ho, resolve, invoke, builtin, Sem.run_bind, Sem.run_pure, Result.andThen_ok, List.map_toArray, List.map_cons, List.map_nil, hs, hx, hrun]
  exact hK _ _ h
end Go.Proofs.YtcdiojlpmgfmeaaGreatDoor.Q
