/- The sorted keys of the program's map of entries, where it has none: by the kit's contracts of maps.Keys, slices.Sorted and slices.Sort. No condition. -/
import Derived.Test.YtbcmnefofcnimaaGreatDoorXe
import Derived.Test.YtbcmnefofcnimaaGreatDoorProg
import Derived.Shelf.SlIter.Nil
import Derived.Shelf.SortM.Plain
import Derived.Shelf.SortM.SortNone
namespace Go.Proofs.YtbcmnefofcnimaaGreatDoor.KServerApart
open Go Go.Proofs Go.RowKit Go.Maps Go.Sort Go.Shelf
def keysA_ren : Go.Shelf.Ren := ⟨fun | 7 => 68 | 10 => 126 | n => n, fun | 23 => 141 | 26 => 9 | 3 => 119 | 28 => 146 | 0 => 0 | 27 => 145 | 33 => 228 | 4 => 4 | n => n, fun | n => n⟩
theorem keysA : Go.Proofs.SlLaysZ.n7 Tryz.prog keysA_ren :=
  { mixed := by kernel_rfl
    f7 := ⟨ "maps.Keys[map[string]scriptorium/api.Entry,string,scriptorium/api.Entry]", by decide, Tryz.func68.trans (congrArg some (by kernel_rfl))⟩
    f10 := ⟨ "maps.Keys[map[string]scriptorium/api.Entry,string,scriptorium/api.Entry]$1", by decide, Tryz.func126.trans (congrArg some (by kernel_rfl))⟩
    t0 := Tryz.underlying0
    a0 := Tryz.isAgg0
    z0 := Tryz.sizeOf0
    v0 := Tryz.zeroValue0
    t4 := Tryz.underlying4
    a4 := Tryz.isAgg4
    z4 := Tryz.sizeOf4
    v4 := Tryz.zeroValue4
    t23 := Tryz.underlying141
    a23 := Tryz.isAgg141
    z23 := Tryz.sizeOf141
    v23 := Tryz.zeroValue141
    t26 := Tryz.underlying9
    a26 := Tryz.isAgg9
    z26 := Tryz.sizeOf9
    v26 := Tryz.zeroValue9
    t27 := Tryz.underlying145
    a27 := Tryz.isAgg145
    z27 := Tryz.sizeOf145
    v27 := Tryz.zeroValue145
    t28 := Tryz.underlying146
    a28 := Tryz.isAgg146
    z28 := Tryz.sizeOf146
    v28 := Tryz.zeroValue146
    t33 := Tryz.underlying228
    a33 := Tryz.isAgg228
    z33 := Tryz.sizeOf228
    v33 := Tryz.zeroValue228 }
def sortedA_ren : Go.Shelf.Ren := ⟨fun | 6 => 67 | 8 => 124 | 9 => 125 | 11 => 195 | 13 => 177 | 12 => 196 | 23 => 238 | 24 => 239 | 14 => 254 | 15 => 255 | 16 => 256 | 17 => 257 | 18 => 258 | 19 => 259 | 20 => 260 | 21 => 261 | 22 => 262 | 25 => 319 | 26 => 299 | 27 => 300 | 28 => 320 | 29 => 321 | 30 => 322 | 31 => 461 | n => n, fun | 26 => 9 | 28 => 146 | 24 => 26 | 0 => 0 | 3 => 3 | 37 => 22 | 48 => 385 | 50 => 325 | 4 => 4 | 40 => 379 | 39 => 378 | 45 => 236 | 5 => 5 | 9 => 9 | 51 => 432 | 55 => 37 | 57 => 510 | 58 => 468 | 33 => 228 | n => n, fun | n => n⟩
theorem sortedA : Go.Proofs.SlLaysZ.n6 Tryz.prog sortedA_ren :=
  { mixed := by kernel_rfl
    f6 := ⟨ "slices.Sorted[string]", by decide, Tryz.func67.trans (congrArg some (by kernel_rfl))⟩
    f8 := ⟨ "slices.Collect[string]", by decide, Tryz.func124.trans (congrArg some (by kernel_rfl))⟩
    f11 := ⟨ "slices.AppendSeq[[]string,string]", by decide, Tryz.func195.trans (congrArg some (by kernel_rfl))⟩
    t0 := Tryz.underlying0
    a0 := Tryz.isAgg0
    z0 := Tryz.sizeOf0
    v0 := Tryz.zeroValue0
    t24 := Tryz.underlying26
    a24 := Tryz.isAgg26
    z24 := Tryz.sizeOf26
    v24 := Tryz.zeroValue26
    t26 := Tryz.underlying9
    a26 := Tryz.isAgg9
    z26 := Tryz.sizeOf9
    v26 := Tryz.zeroValue9
    t28 := Tryz.underlying146
    a28 := Tryz.isAgg146
    z28 := Tryz.sizeOf146
    v28 := Tryz.zeroValue146
    i26 := by kernel_rfl }
def sortA_ren : Go.Shelf.Ren := ⟨fun | 6 => 125 | 8 => 177 | 9 => 196 | 19 => 238 | 20 => 239 | 21 => 254 | 22 => 255 | 23 => 256 | 24 => 257 | 25 => 258 | 26 => 259 | 27 => 260 | 28 => 261 | 29 => 262 | 36 => 319 | 31 => 299 | 32 => 300 | 37 => 320 | 38 => 321 | 39 => 322 | 41 => 461 | n => n, fun | 27 => 26 | 29 => 9 | 3 => 3 | 32 => 22 | 26 => 26 | 0 => 0 | 44 => 385 | 46 => 325 | 4 => 4 | 36 => 379 | 35 => 378 | 41 => 236 | 5 => 5 | 9 => 9 | 53 => 432 | 57 => 37 | 63 => 510 | 64 => 468 | n => n, fun | n => n⟩
theorem sortA : Go.Proofs.SlLaysM.n6 Tryz.prog sortA_ren :=
  { mixed := by kernel_rfl
    f6 := ⟨ "slices.Sort[[]string,string]", by decide, Tryz.func125.trans (congrArg some (by kernel_rfl))⟩
    f8 := Tryz.func177.trans (congrArg some (by kernel_rfl))
    f9 := ⟨ "slices.pdqsortOrdered[string]", by decide, Tryz.func196.trans (congrArg some (by kernel_rfl))⟩
    f19 := Tryz.func238.trans (congrArg some (by kernel_rfl))
    f20 := Tryz.func239.trans (congrArg some (by kernel_rfl))
    f21 := ⟨ "slices.insertionSortOrdered[string]", by decide, Tryz.func254.trans (congrArg some (by kernel_rfl))⟩
    f22 := ⟨ "slices.heapSortOrdered[string]", by decide, Tryz.func255.trans (congrArg some (by kernel_rfl))⟩
    f23 := ⟨ "slices.breakPatternsOrdered[string]", by decide, Tryz.func256.trans (congrArg some (by kernel_rfl))⟩
    f24 := ⟨ "slices.choosePivotOrdered[string]", by decide, Tryz.func257.trans (congrArg some (by kernel_rfl))⟩
    f25 := ⟨ "slices.reverseRangeOrdered[string]", by decide, Tryz.func258.trans (congrArg some (by kernel_rfl))⟩
    f26 := ⟨ "slices.partialInsertionSortOrdered[string]", by decide, Tryz.func259.trans (congrArg some (by kernel_rfl))⟩
    f27 := ⟨ "cmp.Less[string]", by decide, Tryz.func260.trans (congrArg some (by kernel_rfl))⟩
    f28 := ⟨ "slices.partitionEqualOrdered[string]", by decide, Tryz.func261.trans (congrArg some (by kernel_rfl))⟩
    f29 := ⟨ "slices.partitionOrdered[string]", by decide, Tryz.func262.trans (congrArg some (by kernel_rfl))⟩
    f31 := Tryz.func299.trans (congrArg some (by kernel_rfl))
    f32 := Tryz.func300.trans (congrArg some (by kernel_rfl))
    f36 := ⟨ "slices.siftDownOrdered[string]", by decide, Tryz.func319.trans (congrArg some (by kernel_rfl))⟩
    f37 := ⟨ "slices.medianAdjacentOrdered[string]", by decide, Tryz.func320.trans (congrArg some (by kernel_rfl))⟩
    f38 := ⟨ "slices.medianOrdered[string]", by decide, Tryz.func321.trans (congrArg some (by kernel_rfl))⟩
    f39 := ⟨ "cmp.isNaN[string]", by decide, Tryz.func322.trans (congrArg some (by kernel_rfl))⟩
    f41 := ⟨ "slices.order2Ordered[string]", by decide, Tryz.func461.trans (congrArg some (by kernel_rfl))⟩
    t0 := Tryz.underlying0
    a0 := Tryz.isAgg0
    z0 := Tryz.sizeOf0
    v0 := Tryz.zeroValue0
    t3 := Tryz.underlying3
    a3 := Tryz.isAgg3
    z3 := Tryz.sizeOf3
    v3 := Tryz.zeroValue3
    t4 := Tryz.underlying4
    a4 := Tryz.isAgg4
    z4 := Tryz.sizeOf4
    v4 := Tryz.zeroValue4
    t5 := Tryz.underlying5
    a5 := Tryz.isAgg5
    z5 := Tryz.sizeOf5
    v5 := Tryz.zeroValue5
    t9 := Tryz.underlying9
    a9 := Tryz.isAgg9
    z9 := Tryz.sizeOf9
    v9 := Tryz.zeroValue9
    t26 := Tryz.underlying26
    a26 := Tryz.isAgg26
    z26 := Tryz.sizeOf26
    v26 := Tryz.zeroValue26
    t27 := Tryz.underlying26
    a27 := Tryz.isAgg26
    z27 := Tryz.sizeOf26
    v27 := Tryz.zeroValue26
    t29 := Tryz.underlying9
    a29 := Tryz.isAgg9
    z29 := Tryz.sizeOf9
    v29 := Tryz.zeroValue9
    t32 := Tryz.underlying22
    a32 := Tryz.isAgg22
    z32 := Tryz.sizeOf22
    v32 := Tryz.zeroValue22
    t35 := Tryz.underlying378
    a35 := Tryz.isAgg378
    z35 := Tryz.sizeOf378
    v35 := Tryz.zeroValue378
    t36 := Tryz.underlying379
    a36 := Tryz.isAgg379
    z36 := Tryz.sizeOf379
    v36 := Tryz.zeroValue379
    t41 := Tryz.underlying236
    a41 := Tryz.isAgg236
    z41 := Tryz.sizeOf236
    v41 := Tryz.zeroValue236
    t44 := Tryz.underlying385
    a44 := Tryz.isAgg385
    z44 := Tryz.sizeOf385
    v44 := Tryz.zeroValue385
    t46 := Tryz.underlying325
    a46 := Tryz.isAgg325
    z46 := Tryz.sizeOf325
    v46 := Tryz.zeroValue325
    t53 := Tryz.underlying432
    a53 := Tryz.isAgg432
    z53 := Tryz.sizeOf432
    v53 := Tryz.zeroValue432
    t57 := Tryz.underlying37
    a57 := Tryz.isAgg37
    z57 := Tryz.sizeOf37
    v57 := Tryz.zeroValue37
    t63 := Tryz.underlying510
    a63 := Tryz.isAgg510
    z63 := Tryz.sizeOf510
    v63 := Tryz.zeroValue510
    t64 := Tryz.underlying468
    a64 := Tryz.isAgg468
    z64 := Tryz.sizeOf468
    v64 := Tryz.zeroValue468 }

theorem sortsA (m : Nat) : AnyZ.SortsIn Tryz.prog sortedA_ren Fence.wide m :=
  ⟨fun blk off cap ss W hH hblk hsz => callsIn_wide.2 (AnyM.slices_Sort_string sortA blk off cap ss W hH hblk hsz),
   fun p cap W => callsIn_wide.2 (AnyM.slices_Sort_string_none sortA p cap W)⟩
theorem seqNone (bm : Option Nat) (w : World) (h : bm = none ∨ ∃ r cl, bm = some r ∧ w.heap[r]? = some (.map #[] cl)) : ∃ Q : List (List UInt8) → Prop, (∀ ss, Q ss → ss = []) ∧
    SeqGives Fence.wide 2 Tryz.prog 126 #[.pointer (some ⟨w.heap.size, 0, none⟩)] encStr Q 0 (w.alloc (.cells #[.map bm] 141)) := by
  rcases h with rfl | ⟨r, cl, rfl, hr⟩
  · exact ⟨_, fun _ h => h, AnyZ.keys_gives_nil (ρ := keysA_ren) { keysA with } Fence.wide _ trivial rfl w.heap.size _ (by simp) (by simp)⟩
  · have hlt : r < w.heap.size := (Array.getElem?_eq_some_iff.1 hr).1
    have := AnyZ.keys_gives (ρ := keysA_ren) (H := Unit) { keysA with } Fence.wide 2 trivial rfl (by omega) w.heap.size r 0 (.map []) (R := fun _ => none) (w.alloc (.cells #[.map (some r)] 141)) (by simp) (by simp) ⟨#[], cl, (Below.heap_alloc _ _ r hlt).trans hr, ⟨Nat.zero_le _, ⟨fun x h => by simp at h, List.nodup_nil, List.nodup_nil⟩, fun x h => by simp at h⟩, Nat.le_refl _, rfl⟩
    exact ⟨_, fun ss h => List.Perm.eq_nil h, this⟩
set_option maxHeartbeats 1000000 in
theorem allR : Go.X.KeysR Tryz.prog 36 0 false := by
  refine ⟨fun bk o bm w hbk hc hn => ?_, fun h => by cases h⟩
  refine (callsIn_wide (n := 6)).1 ?_
  obtain ⟨Q, hQ, hseq⟩ := seqNone bm w hn
  have cK : ∀ mb W, CallsIn Fence.wide 5 Tryz.prog 68 #[.map mb] W fun e w' => e = .returned (.func (.func 126) #[] #[.pointer (some ⟨W.heap.size, 0, none⟩)]) ∧ w' = W.alloc (.cells #[.map mb] 141) := fun mb W => AnyZ.keys_in keysA Fence.wide 5 trivial rfl mb W
  have cS := AnyZ.sorted_in sortedA Fence.wide 5 trivial trivial trivial trivial rfl (by omega) (sortsA _) (enters_of Tryz.func125 (by kernel_rfl) rfl) 126 #[.pointer (some ⟨w.heap.size, 0, none⟩)] trivial (enters_of Tryz.func126 (by kernel_rfl) rfl) _ 0 (Nat.zero_le _) (by omega) _ hseq
  change CallsIn _ _ Tryz.prog 67 _ _ _ at cS
  have hfK : Fence.wide.fn 68 := trivial
  have hfS : Fence.wide.fn 67 := trivial
  rw [Nat.add_zero] at hc
  refine callsIn_of_wp Tryz.func36 rfl trivial ?_ rfl
  simp only [Tryz.ntmps36, List.size_toArray, List.length_cons, List.length_nil, Nat.reduceAdd, Nat.reduceSub, Array.replicate_succ, Array.replicate_zero, List.push_toArray, List.append_toArray, List.nil_append, List.cons_append]
  gi_wp2_with (first
    | (gi_at_call 68; refine (cK _ _).mono ?_; rintro e w' ⟨rfl, rfl⟩)
    | (gi_at_call 67; refine cS.mono ?_; rintro e w' ⟨v, ss, rfl, hS, hrow, hnil, hb⟩; obtain rfl := hQ _ hS; obtain rfl : v = .slice none 0 0 := hnil.2 rfl))
  refine wpIn_loop_rounds 1 ?_
  rw [roundsIn_succ]
  gi_wp2
  go_ret
  exact ⟨rfl, ((Below.refl _ w).alloc (Nat.le_refl _) _).trans (hb.mono (by simp))⟩
end Go.Proofs.YtbcmnefofcnimaaGreatDoor.KServerApart
