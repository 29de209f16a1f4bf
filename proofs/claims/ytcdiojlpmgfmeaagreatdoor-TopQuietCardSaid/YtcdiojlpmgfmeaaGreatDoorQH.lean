/- Do: the event's function. A tick. No condition. -/
import Derived.Test.YtcdiojlpmgfmeaaGreatDoorQG
import Derived.MapFrom
namespace Go.Proofs.YtcdiojlpmgfmeaaGreatDoor.Q
open Go Go.RowKit Go.Proofs Go.Maps Go.WideMaps Go.ChangeMaps
set_option maxRecDepth 100000
set_option linter.unusedSimpArgs false
set_option linter.unusedVariables false
theorem upd_run {w : World} {b : Nat} {es : Array MapEntry} {cl : Nat} {k : Int} {v : Value} (hb : w.heap[b]? = some (.map es cl)) (hf : Instr.findNow (.int .i64) (.int .i64 k) es.toList 0 = some none) :
    (Instr.mapUpdate 56 (.map (some b)) (.int .i64 k) v).run Tryz.prog w = .ok () (setBlock w b (.map (es.push ⟨.int .i64 k, v, cl⟩) (cl + 1))) := by
  have hc : (Instr.checkKey false 10000 3 (.int .i64 k)).run Tryz.prog w = .ok () w := MapKept.run_checkKey (k := .int .i64 k) Tryz.underlying3 (by simp [MapKept.IsKey]) false 9999
  simp [Instr.mapUpdate, run_underlying Tryz.underlying56, MapKept.run_getObj_map hb, hc, MapKept.run_findKey Tryz.underlying3 hf, MapKept.run_setObj_map _ hb, Result.andThen, setBlock]
theorem zeroF (w : World) : (zeroValue 27).run Tryz.prog w = .ok .nilFunc w := by kernel_rfl
theorem look_run {w : World} {b : Nat} {es : Array MapEntry} {cl : Nat} {k : Int} {i : Nat} {v : Value} (hb : w.heap[b]? = some (.map es cl)) (hf : Instr.findNow (.int .i64) (.int .i64 k) es.toList 0 = some (some (i, v))) :
    (Instr.lookup 56 (.map (some b)) (.int .i64 k) true).run Tryz.prog w = .ok (.tuple #[v, .bool true]) w := by
  have hc : ∀ g, (Instr.checkKey g 10000 3 (.int .i64 k)).run Tryz.prog w = .ok () w := fun g => MapKept.run_checkKey (k := .int .i64 k) Tryz.underlying3 (by simp [MapKept.IsKey]) g 9999
  simp [Instr.lookup, run_underlying Tryz.underlying56, MapKept.run_getObj_map hb, hc, MapKept.run_findKey Tryz.underlying3 hf, Result.andThen]
theorem look_miss {w : World} {b : Nat} {es : Array MapEntry} {cl : Nat} {k : Int} (hb : w.heap[b]? = some (.map es cl)) (hf : Instr.findNow (.int .i64) (.int .i64 k) es.toList 0 = some none) :
    (Instr.lookup 56 (.map (some b)) (.int .i64 k) true).run Tryz.prog w = .ok (.tuple #[.nilFunc, .bool false]) w := by
  have hc : ∀ g, (Instr.checkKey g 10000 3 (.int .i64 k)).run Tryz.prog w = .ok () w := fun g => MapKept.run_checkKey (k := .int .i64 k) Tryz.underlying3 (by simp [MapKept.IsKey]) g 9999
  simp [Instr.lookup, run_underlying Tryz.underlying56, MapKept.run_getObj_map hb, hc, MapKept.run_findKey Tryz.underlying3 hf, Result.andThen, zeroF]
/-- The methods that events go to. -/
abbrev clo (S f : Nat) : Value := .func (.func f) #[.pointer (some ⟨S, 0, none⟩)] #[]
def hands : List (Int × Nat) := [(1, 21), (2, 22), (3, 23), (4, 24), (5, 25), (6, 26), (7, 27), (8, 28), (9, 29)]
def hes (S n : Nat) : Array MapEntry := ((hands.take n).mapIdx fun i x => ⟨.int .i64 x.1, clo S x.2, i⟩).toArray
def mwS (w : World) (b S n : Nat) : World := setBlock w b (.map (hes S n) n)
theorem setBlock_twice (w : World) (b : Nat) (o o' : Obj) : setBlock (setBlock w b o) b o' = setBlock w b o' := by
  unfold setBlock
  simp
theorem mwS_heap {w : World} {b S n : Nat} (hb : b < w.heap.size) : (mwS w b S n).heap[b]? = some (.map (hes S n) n) := by
  unfold mwS setBlock
  simp [hb]
theorem mwS_next {w : World} {b S n f : Nat} {k : Int} (hb : b < w.heap.size) (hx : hands[n]? = some (k, f)) (hf : Instr.findNow (.int .i64) (.int .i64 k) (hes S n).toList 0 = some none) (hp : (hes S n).push ⟨.int .i64 k, clo S f, n⟩ = hes S (n + 1)) :
    (Instr.mapUpdate 56 (.map (some b)) (.int .i64 k) (clo S f)).run Tryz.prog (mwS w b S n) = .ok () (mwS w b S (n + 1)) := by
  rw [upd_run (mwS_heap hb) hf, hp]
  unfold mwS
  rw [setBlock_twice]
theorem mwS_old {w : World} {b S n k : Nat} (hk : k ≠ b) : (mwS w b S n).heap[k]? = w.heap[k]? := by
  unfold mwS setBlock
  exact Array.getElem?_setIfInBounds_ne (Ne.symm hk)
set_option maxHeartbeats 2000000 in
/-- Do: an event whose function is found. -/
theorem Do_some {W : World} {S i f : Nat} {k c n : Int} {b : ByteArray} {g : Bool} {Q : Ending → World → Prop} (hS : S < W.heap.size) (hup : W.cell? ⟨S, 7, none⟩ = some (.bool true)) (hk9 : (k == 9) = false)
    (hf : Instr.findNow (.int .i64) (.int .i64 k) (hes S 9).toList 0 = some (some (i, clo S f))) (hfn : f = 21 ∨ f = 23 ∨ f = 24 ∨ f = 25 ∨ f = 26)
    (h : ∀ w', Below W.heap.size W w' → Calls Tryz.prog f #[.pointer (some ⟨S, 0, none⟩), evt k c n b g] w' fun e w'' => (∃ r, e = .returned (.int .i64 r)) ∧ Q e w'') :
    Calls Tryz.prog 8 #[.pointer (some ⟨S, 0, none⟩), evt k c n b g] W Q := by
  obtain ⟨w1, e1⟩ : ∃ w1, w1 = (W.alloc (.cells #[.int .i64 k, .int .i64 c, .int .i64 n, .string b, .bool g] 29)).alloc (.map #[] 0) := ⟨_, rfl⟩
  have z1 : W.heap.size + 1 < w1.heap.size := by rw [e1]; simp
  have b1 : Below W.heap.size W w1 := by rw [e1]; exact ((Below.refl _ _).alloc (Nat.le_refl _) _).alloc (by simp) _
  have hbx : w1.heap[W.heap.size]? = some (.cells #[.int .i64 k, .int .i64 c, .int .i64 n, .string b, .bool g] 29 (0, 0)) := by
    rw [e1, Below.heap_alloc _ _ _ (by simp)]
    exact Array.getElem?_push_size
  have hmp : w1.heap[W.heap.size + 1]? = some (.map #[] 0) := by
    rw [e1]
    have : W.heap.size + 1 = (W.alloc (.cells #[.int .i64 k, .int .i64 c, .int .i64 n, .string b, .bool g] 29)).heap.size := by simp
    rw [this]
    exact Array.getElem?_push_size
  have e0 : w1 = mwS w1 (W.heap.size + 1) S 0 := by
    unfold mwS setBlock
    have h0 : hes S 0 = #[] := rfl
    rw [h0]
    have : w1.heap.setIfInBounds (W.heap.size + 1) (.map #[] 0) = w1.heap := by
      apply Array.ext_getElem?
      intro j
      by_cases hj : j = W.heap.size + 1
      · subst hj
        rw [hmp]
        simp [z1]
      · rw [Array.getElem?_setIfInBounds_ne (Ne.symm hj)]
    rw [this]
  have hbl : Below W.heap.size W (mwS w1 (W.heap.size + 1) S 9) := ⟨b1.os, b1.tape, b1.output, by unfold mwS setBlock; simpa using b1.size, fun j hj => (mwS_old (by omega)).trans (b1.block j hj)⟩
  have hcx : ∀ j v, (#[.int .i64 k, .int .i64 c, .int .i64 n, .string b, .bool g] : Array Value)[j]? = some v → (mwS w1 (W.heap.size + 1) S 9).cell? ⟨W.heap.size, j, none⟩ = some v := fun j v hv => by
    unfold World.cell?
    rw [mwS_old (by show W.heap.size ≠ W.heap.size + 1; omega), hbx]
    exact hv
  have x0 := hcx 0 _ rfl
  have x1 := hcx 1 _ rfl
  have x2 := hcx 2 _ rfl
  have x3 := hcx 3 _ rfl
  have x4 := hcx 4 _ rfl
  have hl : (Instr.lookup 56 (.map (some (W.heap.size + 1))) (.int .i64 k) true).run Tryz.prog (mwS w1 (W.heap.size + 1) S 9) = .ok (.tuple #[clo S f, .bool true]) (mwS w1 (W.heap.size + 1) S 9) :=
    look_run (mwS_heap z1) hf
  have u0 := mwS_next (w := w1) (S := S) (n := 0) z1 rfl rfl rfl
  have u1 := mwS_next (w := w1) (S := S) (n := 1) z1 rfl rfl rfl
  have u2 := mwS_next (w := w1) (S := S) (n := 2) z1 rfl rfl rfl
  have u3 := mwS_next (w := w1) (S := S) (n := 3) z1 rfl rfl rfl
  have u4 := mwS_next (w := w1) (S := S) (n := 4) z1 rfl rfl rfl
  have u5 := mwS_next (w := w1) (S := S) (n := 5) z1 rfl rfl rfl
  have u6 := mwS_next (w := w1) (S := S) (n := 6) z1 rfl rfl rfl
  have u7 := mwS_next (w := w1) (S := S) (n := 7) z1 rfl rfl rfl
  have u8 := mwS_next (w := w1) (S := S) (n := 8) z1 rfl rfl rfl
  rw [← e0] at u0
  have u0' : (Instr.mapUpdate 56 (.map (some (W.heap.size + 1))) (.int .i64 1) (clo S 21)).run Tryz.prog ((W.alloc (.cells #[.int .i64 k, .int .i64 c, .int .i64 n, .string b, .bool g] 29)).alloc (.map #[] 0)) = .ok () (mwS w1 (W.heap.size + 1) S 1) := by rw [← e1]; exact u0
  have hcall := h _ hbl
  have hid := Lib.hid e1
  have hmm := @run_makeMap Tryz.prog
  clear u0 e1 e0 h hbl hcx hmp hbx b1 hf
  rcases hfn with rfl | rfl | rfl | rfl | rfl
  all_goals
    go_enter Tryz.func8, Tryz.ntmps8
    go_wp2_with (first
      | (go_at_call 21; refine hcall.mono ?_; rintro e w5 ⟨⟨r, rfl⟩, p5⟩)
      | (go_at_call 23; refine hcall.mono ?_; rintro e w5 ⟨⟨r, rfl⟩, p5⟩)
      | (go_at_call 24; refine hcall.mono ?_; rintro e w5 ⟨⟨r, rfl⟩, p5⟩)
      | (go_at_call 25; refine hcall.mono ?_; rintro e w5 ⟨⟨r, rfl⟩, p5⟩)
      | (go_at_call 26; refine hcall.mono ?_; rintro e w5 ⟨⟨r, rfl⟩, p5⟩))
    exact p5
set_option maxHeartbeats 2000000 in
/-- Do: an event that has no function. -/
theorem Do_none {W : World} {S : Nat} {k c n : Int} {b : ByteArray} {g : Bool} (hS : S < W.heap.size) (hup : W.cell? ⟨S, 7, none⟩ = some (.bool true)) (hk9 : (k == 9) = false)
    (hf : Instr.findNow (.int .i64) (.int .i64 k) (hes S 9).toList 0 = some none) :
    Calls Tryz.prog 8 #[.pointer (some ⟨S, 0, none⟩), evt k c n b g] W fun e w' => (∃ r, e = .returned (.int .i64 r)) ∧ Below W.heap.size W w' := by
  obtain ⟨w1, e1⟩ : ∃ w1, w1 = (W.alloc (.cells #[.int .i64 k, .int .i64 c, .int .i64 n, .string b, .bool g] 29)).alloc (.map #[] 0) := ⟨_, rfl⟩
  have z1 : W.heap.size + 1 < w1.heap.size := by rw [e1]; simp
  have b1 : Below W.heap.size W w1 := by rw [e1]; exact ((Below.refl _ _).alloc (Nat.le_refl _) _).alloc (by simp) _
  have hbx : w1.heap[W.heap.size]? = some (.cells #[.int .i64 k, .int .i64 c, .int .i64 n, .string b, .bool g] 29 (0, 0)) := by
    rw [e1, Below.heap_alloc _ _ _ (by simp)]
    exact Array.getElem?_push_size
  have hmp : w1.heap[W.heap.size + 1]? = some (.map #[] 0) := by
    rw [e1]
    have : W.heap.size + 1 = (W.alloc (.cells #[.int .i64 k, .int .i64 c, .int .i64 n, .string b, .bool g] 29)).heap.size := by simp
    rw [this]
    exact Array.getElem?_push_size
  have e0 : w1 = mwS w1 (W.heap.size + 1) S 0 := by
    unfold mwS setBlock
    have h0 : hes S 0 = #[] := rfl
    rw [h0]
    have : w1.heap.setIfInBounds (W.heap.size + 1) (.map #[] 0) = w1.heap := by
      apply Array.ext_getElem?
      intro j
      by_cases hj : j = W.heap.size + 1
      · subst hj
        rw [hmp]
        simp [z1]
      · rw [Array.getElem?_setIfInBounds_ne (Ne.symm hj)]
    rw [this]
  have hbl : Below W.heap.size W (mwS w1 (W.heap.size + 1) S 9) := ⟨b1.os, b1.tape, b1.output, by unfold mwS setBlock; simpa using b1.size, fun j hj => (mwS_old (by omega)).trans (b1.block j hj)⟩
  have hcx : ∀ j v, (#[.int .i64 k, .int .i64 c, .int .i64 n, .string b, .bool g] : Array Value)[j]? = some v → (mwS w1 (W.heap.size + 1) S 9).cell? ⟨W.heap.size, j, none⟩ = some v := fun j v hv => by
    unfold World.cell?
    rw [mwS_old (by show W.heap.size ≠ W.heap.size + 1; omega), hbx]
    exact hv
  have x0 := hcx 0 _ rfl
  have x1 := hcx 1 _ rfl
  have x2 := hcx 2 _ rfl
  have x3 := hcx 3 _ rfl
  have x4 := hcx 4 _ rfl
  have hl : (Instr.lookup 56 (.map (some (W.heap.size + 1))) (.int .i64 k) true).run Tryz.prog (mwS w1 (W.heap.size + 1) S 9) = .ok (.tuple #[.nilFunc, .bool false]) (mwS w1 (W.heap.size + 1) S 9) :=
    look_miss (mwS_heap z1) hf
  have u0 := mwS_next (w := w1) (S := S) (n := 0) z1 rfl rfl rfl
  have u1 := mwS_next (w := w1) (S := S) (n := 1) z1 rfl rfl rfl
  have u2 := mwS_next (w := w1) (S := S) (n := 2) z1 rfl rfl rfl
  have u3 := mwS_next (w := w1) (S := S) (n := 3) z1 rfl rfl rfl
  have u4 := mwS_next (w := w1) (S := S) (n := 4) z1 rfl rfl rfl
  have u5 := mwS_next (w := w1) (S := S) (n := 5) z1 rfl rfl rfl
  have u6 := mwS_next (w := w1) (S := S) (n := 6) z1 rfl rfl rfl
  have u7 := mwS_next (w := w1) (S := S) (n := 7) z1 rfl rfl rfl
  have u8 := mwS_next (w := w1) (S := S) (n := 8) z1 rfl rfl rfl
  rw [← e0] at u0
  have u0' : (Instr.mapUpdate 56 (.map (some (W.heap.size + 1))) (.int .i64 1) (clo S 21)).run Tryz.prog ((W.alloc (.cells #[.int .i64 k, .int .i64 c, .int .i64 n, .string b, .bool g] 29)).alloc (.map #[] 0)) = .ok () (mwS w1 (W.heap.size + 1) S 1) := by rw [← e1]; exact u0
  have hbb := Lib.hid hbl
  have hid := Lib.hid e1
  have hmm := @run_makeMap Tryz.prog
  clear u0 e1 e0 hbl hcx hmp hbx b1 hf
  go_enter Tryz.func8, Tryz.ntmps8
  go_wp2_with fail
  go_ret
  exact ⟨⟨_, rfl⟩, hbb.out⟩
end Go.Proofs.YtcdiojlpmgfmeaaGreatDoor.Q
