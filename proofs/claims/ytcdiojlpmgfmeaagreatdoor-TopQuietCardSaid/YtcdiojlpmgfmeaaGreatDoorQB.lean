/- The disk without files, and a rewrite over a server without keys: contracts. No condition. -/
import Derived.Test.YtcdiojlpmgfmeaaGreatDoorQA
namespace Go.Proofs.YtcdiojlpmgfmeaaGreatDoor.Q
open Go Go.RowKit Go.Proofs
set_option maxRecDepth 100000
set_option linter.unusedSimpArgs false
set_option linter.unusedVariables false
open Go.Maps Go.WideMaps
/-- A pointer read as whether it is one. -/
def isP (v : Value) : Option (DataW Unit × List MemPlace) := match v with | .pointer none => some (.lit (.bool false), []) | .pointer (some _) => some (.lit (.bool true), []) | _ => none
theorem isP_false {v : Value} {ps : List MemPlace} (h : isP v = some (.lit (.bool false), ps)) : v = .pointer none := by
  cases v <;> simp [isP] at h
  rename_i p
  cases p with
  | none => rfl
  | some a => simp [isP] at h
theorem law : Keyed Tryz.prog 9 := string_keyed Tryz.underlying9
theorem zeroE (w : World) : (zeroValue 129).run Tryz.prog w = .ok (.pointer none) w := by kernel_rfl
theorem own_none {W : World} {M cl : Nat} (h : W.heap[M]? = some (.map #[] cl)) : W.ownsMap Tryz.prog 9 isP M 0 (.map [] : DataW Unit) :=
  ⟨#[], cl, h, ⟨Nat.zero_le _, ⟨fun x h => by simp at h, List.nodup_nil, List.nodup_nil⟩, fun x h => by simp at h⟩, Nat.le_refl _, rfl⟩
theorem look_none {W : World} {M cl : Nat} (s : ByteArray) (h : W.heap[M]? = some (.map #[] cl)) (hs : s.size ≤ maxLen) : (Instr.lookup 128 (.map (some M)) (.string s) false).run Tryz.prog W = .ok (.pointer none) W := by
  obtain ⟨v, ps, h1, h2⟩ := (own_none h).lookup law Tryz.underlying128 (zeroE W) (zd := .lit (.bool false)) (zp := []) rfl (keyOf_string_mk Tryz.underlying9 hs)
  obtain rfl := isP_false h2
  exact h1
theorem find_ok {W : World} {D M cl : Nat} (h : DiskIs W D M cl) (s : ByteArray) (hs : s.size ≤ maxLen) : Calls Tryz.prog 193 #[.pointer (some ⟨D, 0, none⟩), .string s] W fun e w' => e = .returned (.tuple #[.pointer none, .int .i64 25]) ∧ w' = W := by
  have h1 := h.files
  have h2 := h.down
  have h3 := look_none s h.map hs
  go_enter Tryz.func193, Tryz.ntmps193
  go_wp2
  go_ret2
  exact ⟨rfl, rfl⟩
theorem Delete_ok {W : World} {D M cl : Nat} (h : DiskIs W D M cl) (s : ByteArray) (hs : s.size ≤ maxLen) : Calls Tryz.prog 116 #[.pointer (some ⟨D, 0, none⟩), .string s] W fun e w' => e = .returned (.int .i64 25) ∧ w' = W := by
  have h1 := find_ok h s hs
  go_enter Tryz.func116, Tryz.ntmps116
  go_wp2_with (go_at_call 193; refine h1.mono ?_; rintro e w' ⟨rfl, rfl⟩)
  go_ret
  exact ⟨rfl, rfl⟩
theorem Cut_ok {W : World} {D M cl : Nat} (h : DiskIs W D M cl) (s : ByteArray) (n : Int) (hs : s.size ≤ maxLen) : Calls Tryz.prog 121 #[.pointer (some ⟨D, 0, none⟩), .string s, .int .i64 n] W fun e w' => e = .returned (.int .i64 25) ∧ w' = W := by
  have h1 := find_ok h s hs
  go_enter Tryz.func121, Tryz.ntmps121
  go_wp2_with (go_at_call 193; refine h1.mono ?_; rintro e w' ⟨rfl, rfl⟩)
  go_ret
  exact ⟨rfl, rfl⟩
end Go.Proofs.YtcdiojlpmgfmeaaGreatDoor.Q
