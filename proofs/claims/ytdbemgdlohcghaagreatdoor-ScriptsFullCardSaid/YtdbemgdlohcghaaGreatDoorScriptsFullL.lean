/- The cache: what its functions do to a map of scripts. No condition: lemmas. -/
import Derived.Test.YtdbemgdlohcghaaGreatDoorProg
import Derived.WalkKit
import Derived.Below
import Derived.Maps.Own
import Derived.Maps.OwnSet
import Derived.Maps.Views
import Derived.Maps.AppendAt
import Derived.StringKeys
import Derived.Carry
namespace Go.Proofs.YtdbemgdlohcghaaGreatDoor.KScriptsFull
open Go Go.RowKit Go.Proofs Go.Maps Go.WideMaps
set_option maxRecDepth 100000
set_option linter.unusedVariables false
set_option linter.unusedSimpArgs false
/-- A pointer read as whether it is one. -/
def isP (v : Value) : Option (DataW Unit × List MemPlace) := match v with | .pointer none => some (.lit (.bool false), []) | .pointer (some _) => some (.lit (.bool true), []) | _ => none
theorem isP_true {v : Value} {ps : List MemPlace} (h : isP v = some (.lit (.bool true), ps)) : ∃ a, v = .pointer (some a) := by
  cases v <;> simp [isP] at h
  rename_i p
  cases p with
  | none => simp [isP] at h
  | some a => exact ⟨a, rfl⟩
theorem isP_false {v : Value} {ps : List MemPlace} (h : isP v = some (.lit (.bool false), ps)) : v = .pointer none := by
  cases v <;> simp [isP] at h
  rename_i p
  cases p with
  | none => rfl
  | some a => simp [isP] at h
theorem law : Keyed Tryz.prog 9 := string_keyed Tryz.underlying9
theorem zeroE (w : World) : (zeroValue 33).run Tryz.prog w = .ok (.pointer none) w := by kernel_rfl
theorem below_grown {W w : World} {row : Option Nat} (h : Below W.heap.size W w) : W.grownBy w row := ⟨h.os, h.tape, h.output, h.size, fun k hk _ => h.block k hk⟩
theorem look_in {w : World} {bm n : Nat} {D : DataW Unit} {d : ByteArray} (hown : w.ownsMap Tryz.prog 9 isP bm n D) (hd : d.size ≤ maxLen) :
    ∃ v ps, (Instr.lookup 38 (.map (some bm)) (.string d) false).run Tryz.prog w = .ok v w ∧ isP v = some (D.atKey (.string d.data.toList) (.lit (.bool false)), ps) :=
  hown.lookup law Tryz.underlying38 (zeroE w) (zd := .lit (.bool false)) (zp := []) rfl (keyOf_string_mk Tryz.underlying9 hd)
/-- Load of a script that is not kept yet. -/
theorem load_new {B bm n : Nat} {D : DataW Unit} {t d : ByteArray} {W : World} (hc : W.cell? ⟨B, 0, none⟩ = some (.map (some bm))) (hown : W.ownsMap Tryz.prog 9 isP bm n D) (hB : B < W.heap.size)
    (hd : d.size ≤ maxLen) (hno : D.atKey (.string d.data.toList) (.lit (.bool false)) = .lit (.bool false)) (hsz : Maps.size D < 256) (hn : n < maxLen)
    (hsrc : Calls Tryz.prog 15 #[.string t] W fun e w' => (∃ a, e = .returned (.tuple #[.pointer (some a), .int .i64 0, .int .i64 0])) ∧ Below W.heap.size W w')
    (hsum : ∀ W', Below W.heap.size W W' → Calls Tryz.prog 16 #[.string t] W' fun e w' => e = .returned (.string d) ∧ Below W'.heap.size W' w') :
    Calls Tryz.prog 8 #[.pointer (some ⟨B, 0, none⟩), .string t] W fun e w' => e = .returned (.tuple #[.string d, .int .i64 0]) ∧ w'.ownsMap Tryz.prog 9 isP bm (n + 1) (D.put (.string d.data.toList) (.lit (.bool true))) ∧ W.grownBy w' (some bm) := by
  have hkey : keyOf Tryz.prog 9 (.string d) = some (.string d.data.toList) := keyOf_string_mk Tryz.underlying9 hd
  go_enter Tryz.func8, Tryz.ntmps8
  go_wp2_with (first
    | (go_at_call 15; refine hsrc.mono ?_; rintro e w1 ⟨⟨a, rfl⟩, b1⟩)
    | (go_at_call 16; refine (hsum _ b1).mono ?_; rintro e w2 ⟨rfl, b2⟩
       have bb : Below W.heap.size W w2 := b1.trans (b2.mono b1.size)
       have c2 : w2.cell? ⟨B, 0, none⟩ = some (.map (some bm)) := (bb.cell (p := ⟨B, 0, none⟩) hB).trans hc
       have own2 : w2.ownsMap Tryz.prog 9 isP bm n D := hown.kept (row := none) (below_grown bb) (by simp)
       obtain ⟨v, ps, hlook, hv⟩ := look_in own2 hd
       rw [hno] at hv
       obtain rfl := isP_false hv
       have hlen := own2.len Tryz.underlying38 3)
    | (at_mapUpdate; refine wpList_mapUpdate_own _ rfl _ _ _ 38 rfl 9 33 law Tryz.underlying38 isP bm n D rfl own2 hn _ _ _ rfl rfl hkey (.lit (.bool true)) [] rfl ?_; intro w3 hown3 hgrow3)
    | go_in)
  go_ret2
  exact ⟨rfl, hown3, (below_grown bb).trans hgrow3⟩
/-- Load of a script that is kept. -/
theorem load_again {B bm n : Nat} {D : DataW Unit} {t d : ByteArray} {W : World} (hc : W.cell? ⟨B, 0, none⟩ = some (.map (some bm))) (hown : W.ownsMap Tryz.prog 9 isP bm n D) (hB : B < W.heap.size)
    (hd : d.size ≤ maxLen) (hyes : D.atKey (.string d.data.toList) (.lit (.bool false)) = .lit (.bool true))
    (hsrc : Calls Tryz.prog 15 #[.string t] W fun e w' => (∃ a, e = .returned (.tuple #[.pointer (some a), .int .i64 0, .int .i64 0])) ∧ Below W.heap.size W w')
    (hsum : ∀ W', Below W.heap.size W W' → Calls Tryz.prog 16 #[.string t] W' fun e w' => e = .returned (.string d) ∧ Below W'.heap.size W' w') :
    Calls Tryz.prog 8 #[.pointer (some ⟨B, 0, none⟩), .string t] W fun e w' => e = .returned (.tuple #[.string d, .int .i64 0]) ∧ Below W.heap.size W w' := by
  go_enter Tryz.func8, Tryz.ntmps8
  go_wp2_with (first
    | (go_at_call 15; refine hsrc.mono ?_; rintro e w1 ⟨⟨a, rfl⟩, b1⟩)
    | (go_at_call 16; refine (hsum _ b1).mono ?_; rintro e w2 ⟨rfl, b2⟩
       have bb : Below W.heap.size W w2 := b1.trans (b2.mono b1.size)
       have c2 : w2.cell? ⟨B, 0, none⟩ = some (.map (some bm)) := (bb.cell (p := ⟨B, 0, none⟩) hB).trans hc
       have own2 : w2.ownsMap Tryz.prog 9 isP bm n D := hown.kept (row := none) (below_grown bb) (by simp)
       obtain ⟨v, ps, hlook, hv⟩ := look_in own2 hd
       rw [hyes] at hv
       obtain ⟨a', rfl⟩ := isP_true hv)
    | go_in)
  go_ret2
  exact ⟨rfl, bb⟩
/-- Load where there is no room. -/
theorem load_full {B bm n : Nat} {D : DataW Unit} {t d : ByteArray} {W : World} (hc : W.cell? ⟨B, 0, none⟩ = some (.map (some bm))) (hown : W.ownsMap Tryz.prog 9 isP bm n D) (hB : B < W.heap.size)
    (hd : d.size ≤ maxLen) (hno : D.atKey (.string d.data.toList) (.lit (.bool false)) = .lit (.bool false)) (hsz : 256 ≤ Maps.size D)
    (hsrc : Calls Tryz.prog 15 #[.string t] W fun e w' => (∃ a, e = .returned (.tuple #[.pointer (some a), .int .i64 0, .int .i64 0])) ∧ Below W.heap.size W w')
    (hsum : ∀ W', Below W.heap.size W W' → Calls Tryz.prog 16 #[.string t] W' fun e w' => e = .returned (.string d) ∧ Below W'.heap.size W' w') :
    Calls Tryz.prog 8 #[.pointer (some ⟨B, 0, none⟩), .string t] W fun e w' => e = .returned (.tuple #[.string ⟨#[]⟩, .int .i64 8]) ∧ Below W.heap.size W w' := by
  go_enter Tryz.func8, Tryz.ntmps8
  go_wp2_with (first
    | (go_at_call 15; refine hsrc.mono ?_; rintro e w1 ⟨⟨a, rfl⟩, b1⟩)
    | (go_at_call 16; refine (hsum _ b1).mono ?_; rintro e w2 ⟨rfl, b2⟩
       have bb : Below W.heap.size W w2 := b1.trans (b2.mono b1.size)
       have c2 : w2.cell? ⟨B, 0, none⟩ = some (.map (some bm)) := (bb.cell (p := ⟨B, 0, none⟩) hB).trans hc
       have own2 : w2.ownsMap Tryz.prog 9 isP bm n D := hown.kept (row := none) (below_grown bb) (by simp)
       obtain ⟨v, ps, hlook, hv⟩ := look_in own2 hd
       rw [hno] at hv
       obtain rfl := isP_false hv
       have hlen := own2.len Tryz.underlying38 3)
    | go_in)
  go_ret2
  exact ⟨rfl, bb⟩
/-- Load of no cache. -/
theorem load_nil (t : ByteArray) (W : World) : Calls Tryz.prog 8 #[.pointer none, .string t] W fun e w' => e = .returned (.tuple #[.string ⟨#[]⟩, .int .i64 24]) ∧ Below W.heap.size W w' := by
  go_enter Tryz.func8, Tryz.ntmps8
  go_wp2
  go_ret2
  exact ⟨rfl, Below.refl _ _⟩
/-- Len. -/
theorem len_of {B bm n : Nat} {D : DataW Unit} {W : World} (hc : W.cell? ⟨B, 0, none⟩ = some (.map (some bm))) (hown : W.ownsMap Tryz.prog 9 isP bm n D) :
    Calls Tryz.prog 9 #[.pointer (some ⟨B, 0, none⟩)] W fun e w' => e = .returned (.int .i64 (Maps.size D)) ∧ w' = W := by
  have hlen := hown.len Tryz.underlying38 3
  go_enter Tryz.func9, Tryz.ntmps9
  go_wp2
  go_ret
  exact ⟨rfl, rfl⟩
theorem len_nil (W : World) : Calls Tryz.prog 9 #[.pointer none] W fun e w' => e = .returned (.int .i64 0) ∧ w' = W := by
  go_enter Tryz.func9, Tryz.ntmps9
  go_wp2
  go_ret
  exact ⟨rfl, rfl⟩
theorem get_nil (t : ByteArray) (W : World) : Calls Tryz.prog 11 #[.pointer none, .string t] W fun e w' => e = .returned (.tuple #[.pointer none, .bool false]) ∧ w' = W := by
  go_enter Tryz.func11, Tryz.ntmps11
  go_wp2
  go_ret2
  exact ⟨rfl, rfl⟩
theorem has_nil (t : ByteArray) (W : World) : Calls Tryz.prog 12 #[.pointer none, .string t] W fun e w' => e = .returned (.bool false) ∧ Below W.heap.size W w' := by
  have hg := get_nil t
  go_enter Tryz.func12, Tryz.ntmps12
  go_wp2_with (first
    | (go_at_call 11; refine (hg _).mono ?_; rintro e w1 ⟨rfl, rfl⟩)
    | go_in)
  go_ret
  exact ⟨rfl, Below.refl _ _⟩
/-- New. -/
theorem new_of (W : World) : Calls Tryz.prog 4 #[] W fun e w' => e = .returned (.pointer (some ⟨W.heap.size + 1, 0, none⟩)) ∧ w' = (W.alloc (.map #[] 0)).alloc (.cells #[.map (some W.heap.size)] 40) := by
  have hmm := @run_makeMap Tryz.prog
  go_enter Tryz.func4, Tryz.ntmps4
  go_wp2
  go_ret
  exact ⟨rfl, rfl⟩
theorem clear_in {w : World} {bm n : Nat} {D : DataW Unit} (hown : w.ownsMap Tryz.prog 9 isP bm n D) : ∃ w', (Builtin.clear_ #[38] 0 #[.map (some bm)]).run Tryz.prog w = .ok (.tuple #[]) w' ∧ w'.ownsMap Tryz.prog 9 isP bm 0 (.map []) ∧ w.grownBy w' (some bm) := by
  obtain ⟨es, clock, hb, F, hs, rfl⟩ := hown
  have hrun : (Builtin.clear_ #[38] 0 #[.map (some bm)]).run Tryz.prog w = .ok (.tuple #[]) (Go.ChangeMaps.setBlock w bm (.map #[] clock)) := by
    simp [Builtin.clear_, run_underlying Tryz.underlying38, Go.MapKept.run_getObj_map hb, Go.MapKept.run_setObj_map _ hb, Result.andThen, Go.ChangeMaps.setBlock]
  refine ⟨_, hrun, ⟨#[], clock, Go.ChangeMaps.heap_setBlock_same hb _, ⟨Nat.zero_le _, ⟨fun x h => by simp at h, List.nodup_nil, List.nodup_nil⟩, fun x h => by simp at h⟩, Nat.le_refl _, rfl⟩, ⟨rfl, rfl, rfl, by simp [Go.ChangeMaps.setBlock], fun i _ hi => Go.ChangeMaps.heap_setBlock_other hb _ (fun e => hi (by rw [e]))⟩⟩
/-- Flush. -/
theorem flush_of {B bm n : Nat} {D : DataW Unit} {W : World} (hc : W.cell? ⟨B, 0, none⟩ = some (.map (some bm))) (hown : W.ownsMap Tryz.prog 9 isP bm n D) :
    Calls Tryz.prog 10 #[.pointer (some ⟨B, 0, none⟩)] W fun e w' => (∃ v, e = .returned v) ∧ w'.ownsMap Tryz.prog 9 isP bm 0 (.map []) ∧ W.grownBy w' (some bm) := by
  obtain ⟨w1, hclr, own1, g1⟩ := clear_in hown
  go_enter Tryz.func10, Tryz.ntmps10
  go_wp2
  go_end0
  exact ⟨⟨_, rfl⟩, own1, g1⟩
end Go.Proofs.YtdbemgdlohcghaaGreatDoor.KScriptsFull
