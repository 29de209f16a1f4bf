/- The sorted keys of the disk's map of files, where it has none or one: by the kit's contracts of maps.Keys, slices.Sorted and slices.Sort. No condition. -/
import Derived.Test.YtcdiojlpmgfmeaaGreatDoorServerPipesN
namespace Go.Proofs.YtcdiojlpmgfmeaaGreatDoor.KServerPipes
open Go Go.Proofs Go.RowKit Go.Maps Go.Sort Go.Shelf
def keysB_ren : Go.Shelf.Ren := ⟨fun | 7 => 71 | 10 => 132 | n => n, fun | 23 => 128 | 26 => 9 | 3 => 129 | 28 => 121 | 0 => 0 | 27 => 120 | 33 => 204 | 4 => 4 | n => n, fun | n => n⟩
theorem keysB : Go.Proofs.SlLaysZ.n7 Tryz.prog keysB_ren :=
  { mixed := by kernel_rfl
    f7 := ⟨ "maps.Keys[map[string]*scriptorium/disk.file,string,*scriptorium/disk.file]", by decide, Tryz.func71.trans (congrArg some (by kernel_rfl))⟩
    f10 := ⟨ "maps.Keys[map[string]*scriptorium/disk.file,string,*scriptorium/disk.file]$1", by decide, Tryz.func132.trans (congrArg some (by kernel_rfl))⟩
    t0 := Tryz.underlying0
    a0 := Tryz.isAgg0
    z0 := Tryz.sizeOf0
    v0 := Tryz.zeroValue0
    t4 := Tryz.underlying4
    a4 := Tryz.isAgg4
    z4 := Tryz.sizeOf4
    v4 := Tryz.zeroValue4
    t23 := Tryz.underlying128
    a23 := Tryz.isAgg128
    z23 := Tryz.sizeOf128
    v23 := Tryz.zeroValue128
    t26 := Tryz.underlying9
    a26 := Tryz.isAgg9
    z26 := Tryz.sizeOf9
    v26 := Tryz.zeroValue9
    t27 := Tryz.underlying120
    a27 := Tryz.isAgg120
    z27 := Tryz.sizeOf120
    v27 := Tryz.zeroValue120
    t28 := Tryz.underlying121
    a28 := Tryz.isAgg121
    z28 := Tryz.sizeOf121
    v28 := Tryz.zeroValue121
    t33 := Tryz.underlying204
    a33 := Tryz.isAgg204
    z33 := Tryz.sizeOf204
    v33 := Tryz.zeroValue204 }

theorem seqNoneB (bm : Option Nat) (w : World) (h : bm = none ∨ ∃ r cl, bm = some r ∧ w.heap[r]? = some (.map #[] cl)) : ∃ Q : List (List UInt8) → Prop, (∀ ss, Q ss → ss = []) ∧
    SeqGives Fence.wide 2 Tryz.prog 132 #[.pointer (some ⟨w.heap.size, 0, none⟩)] encStr Q 0 (w.alloc (.cells #[.map bm] 128)) := by
  rcases h with rfl | ⟨r, cl, rfl, hr⟩
  · exact ⟨_, fun _ h => h, AnyZ.keys_gives_nil (ρ := keysB_ren) { keysB with } Fence.wide _ trivial rfl w.heap.size _ (by simp) (by simp)⟩
  · have hlt : r < w.heap.size := (Array.getElem?_eq_some_iff.1 hr).1
    have := AnyZ.keys_gives (ρ := keysB_ren) (H := Unit) { keysB with } Fence.wide 2 trivial rfl (by omega) w.heap.size r 0 (.map []) (R := fun _ => none) (w.alloc (.cells #[.map (some r)] 128)) (by simp) (by simp) ⟨#[], cl, (Below.heap_alloc _ _ r hlt).trans hr, ⟨Nat.zero_le _, ⟨fun x h => by simp at h, List.nodup_nil, List.nodup_nil⟩, fun x h => by simp at h⟩, Nat.le_refl _, rfl⟩
    exact ⟨_, fun ss h => List.Perm.eq_nil h, this⟩
theorem seqOneB (r cl b : Nat) (s : ByteArray) (v : Value) (w : World) (hr : w.heap[r]? = some (.map #[⟨.string s, v, b⟩] cl)) (hb : b < cl) (hs : s.size ≤ maxLen) : ∃ (D0 : DataW Unit), Maps.size D0 ≤ 1 ∧ strKeys D0 = [s.data.toList] ∧
    SeqGives Fence.wide 2 Tryz.prog 132 #[.pointer (some ⟨w.heap.size, 0, none⟩)] encStr (fun ss => ss.Perm (strKeys D0)) (Maps.size D0) (w.alloc (.cells #[.map (some r)] 128)) := by
  have hlt : r < w.heap.size := (Array.getElem?_eq_some_iff.1 hr).1
  have hk : keyOf Tryz.prog (keysB_ren.t 26) (.string s) = some (.string s.data.toList) := by
    have hu : Tryz.prog.underlying (keysB_ren.t 26) = some .string := keysB.t26
    simp [keyOf, hu, mapKey, hs]
  have hrd : Go.WideElems.rd (H := Unit) Tryz.prog (keysB_ren.t 26) (fun _ => some (.nil, [])) ⟨.string s, v, b⟩ = some (.string s.data.toList, .nil) := by
    simp [Go.WideElems.rd, hk]
  have hrg : Go.WideElems.rg (H := Unit) Tryz.prog (keysB_ren.t 26) (fun _ => some (.nil, [])) ⟨.string s, v, b⟩ = (.string s.data.toList, .nil) := by
    simp [Go.WideElems.rg, hrd]
  refine ⟨.map [(.string s.data.toList, .nil)], ?_, rfl, ?_⟩
  · exact Nat.le_refl _
  · exact AnyZ.keys_gives (ρ := keysB_ren) (H := Unit) { keysB with } Fence.wide 2 trivial rfl (by omega) w.heap.size r 1 (.map [(.string s.data.toList, .nil)]) (R := fun _ => some (.nil, [])) (w.alloc (.cells #[.map (some r)] 128)) (by simp) (by simp)
      ⟨#[⟨.string s, v, b⟩], cl, (Below.heap_alloc _ _ r hlt).trans hr, ⟨by show 1 ≤ maxLen; exact Nat.le_of_ble_eq_true (by kernel_rfl), ⟨fun x h => by simp at h; subst h; exact hb, by simp, by simp⟩, fun x h => by simp at h; subst h; exact ⟨_, hrd⟩⟩, Nat.le_refl _, by simp [hrg, DataW.insert]⟩
set_option maxHeartbeats 1000000 in
theorem namesR : Go.X.KeysR Tryz.prog 37 0 true := by
  have cK : ∀ mb W, CallsIn Fence.wide 5 Tryz.prog 71 #[.map mb] W fun e w' => e = .returned (.func (.func 132) #[] #[.pointer (some ⟨W.heap.size, 0, none⟩)]) ∧ w' = W.alloc (.cells #[.map mb] 128) := fun mb W => AnyZ.keys_in keysB Fence.wide 5 trivial rfl mb W
  refine ⟨fun bk o bm w hbk hc hn => ?_, fun _ bk o r cl s v b w hbk hc hr hb hs => ?_⟩
  · refine (callsIn_wide (n := 6)).1 ?_
    obtain ⟨Q, hQ, hseq⟩ := seqNoneB bm w hn
    have cS := AnyZ.sorted_in sortedA Fence.wide 5 trivial trivial trivial trivial rfl (by omega) (sortsA _) (enters_of Tryz.func130 (by kernel_rfl) rfl) 132 #[.pointer (some ⟨w.heap.size, 0, none⟩)] trivial (enters_of Tryz.func132 (by kernel_rfl) rfl) _ 0 (Nat.zero_le _) (by omega) _ hseq
    change CallsIn _ _ Tryz.prog 68 _ _ _ at cS
    have hfK : Fence.wide.fn 71 := trivial
    have hfS : Fence.wide.fn 68 := trivial
    rw [Nat.add_zero] at hc
    refine callsIn_of_wp Tryz.func37 rfl trivial ?_ rfl
    simp only [Tryz.ntmps37, List.size_toArray, List.length_cons, List.length_nil, Nat.reduceAdd, Nat.reduceSub, Array.replicate_succ, Array.replicate_zero, List.push_toArray, List.append_toArray, List.nil_append, List.cons_append]
    gi_wp2_with (first
      | (gi_at_call 71; refine (cK _ _).mono ?_; rintro e w' ⟨rfl, rfl⟩)
      | (gi_at_call 68; refine cS.mono ?_; rintro e w' ⟨v, ss, rfl, hS, hrow, hnil, hb⟩; obtain rfl := hQ _ hS; obtain rfl : v = .slice none 0 0 := hnil.2 rfl))
    go_ret
    exact ⟨rfl, ((Below.refl _ w).alloc (Nat.le_refl _) _).trans (hb.mono (by simp))⟩
  · refine (callsIn_wide (n := 6)).1 ?_
    obtain ⟨D0, hD1, hD2, hseq⟩ := seqOneB r cl b s v w hr hb (Nat.le_trans hs (Nat.le_of_ble_eq_true (by kernel_rfl)))
    have cS := AnyZ.sorted_in sortedA Fence.wide 5 trivial trivial trivial trivial rfl (by omega) (sortsA _) (enters_of Tryz.func130 (by kernel_rfl) rfl) 132 #[.pointer (some ⟨w.heap.size, 0, none⟩)] trivial (enters_of Tryz.func132 (by kernel_rfl) rfl) _ _ (Nat.le_trans hD1 (Nat.le_of_ble_eq_true (by kernel_rfl))) (by omega) _ hseq
    change CallsIn _ _ Tryz.prog 68 _ _ _ at cS
    have hfK : Fence.wide.fn 71 := trivial
    have hfS : Fence.wide.fn 68 := trivial
    rw [Nat.add_zero] at hc
    refine callsIn_of_wp Tryz.func37 rfl trivial ?_ rfl
    simp only [Tryz.ntmps37, List.size_toArray, List.length_cons, List.length_nil, Nat.reduceAdd, Nat.reduceSub, Array.replicate_succ, Array.replicate_zero, List.push_toArray, List.append_toArray, List.nil_append, List.cons_append]
    gi_wp2_with (first
      | (gi_at_call 71; refine (cK _ _).mono ?_; rintro e w' ⟨rfl, rfl⟩)
      | (gi_at_call 68; refine cS.mono ?_; rintro e w' ⟨v', ss, rfl, hS, hrow, hnil, hb'⟩))
    go_ret
    rw [hD2] at hS
    obtain rfl := List.perm_singleton.1 hS
    obtain ⟨hlen, ⟨rfl, h0⟩ | ⟨g, cap, cur, rfl, hg, hcell, hle, _, hsz, htk⟩⟩ := hrow
    · simp at h0
    · refine ⟨g, cap, cur, _, rfl, Nat.le_trans (by simp) hg, hcell, by omega, by simpa using hle, ?_, ((Below.refl _ w).alloc (Nat.le_refl _) _).trans (hb'.mono (by simp))⟩
      have h1 : cur.toList.take 1 = [encStr s.data.toList] := by simpa using htk
      have h2 : cur.toList[0]? = some (encStr s.data.toList) := by
        have := congrArg (fun l => l[0]?) h1
        simpa using this
      simpa [encStr] using h2
end Go.Proofs.YtcdiojlpmgfmeaaGreatDoor.KServerPipes
