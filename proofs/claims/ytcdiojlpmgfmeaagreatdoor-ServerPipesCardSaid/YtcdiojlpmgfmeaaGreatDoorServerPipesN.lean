/- The sorted keys of the program's map of entries, where it has none: by the kit's contracts of maps.Keys, slices.Sorted and slices.Sort. No condition. -/
import Derived.Test.YtcdiojlpmgfmeaaGreatDoorXe
import Derived.Test.YtcdiojlpmgfmeaaGreatDoorProg
import Derived.Shelf.SlIter.Nil
import Derived.Shelf.SortM.Plain
import Derived.Shelf.SortM.SortNone
namespace Go.Proofs.YtcdiojlpmgfmeaaGreatDoor.KServerPipes
open Go Go.Proofs Go.RowKit Go.Maps Go.Sort Go.Shelf
def keysA_ren : Go.Shelf.Ren := ⟨fun | 7 => 69 | 10 => 131 | n => n, fun | 23 => 123 | 26 => 9 | 3 => 99 | 28 => 121 | 0 => 0 | 27 => 120 | 33 => 204 | 4 => 4 | n => n, fun | n => n⟩
theorem keysA : Go.Proofs.SlLaysZ.n7 Tryz.prog keysA_ren :=
  { mixed := by kernel_rfl
    f7 := ⟨ "maps.Keys[map[string]scriptorium/api.Entry,string,scriptorium/api.Entry]", by decide, Tryz.func69.trans (congrArg some (by kernel_rfl))⟩
    f10 := ⟨ "maps.Keys[map[string]scriptorium/api.Entry,string,scriptorium/api.Entry]$1", by decide, Tryz.func131.trans (congrArg some (by kernel_rfl))⟩
    t0 := Tryz.underlying0
    a0 := Tryz.isAgg0
    z0 := Tryz.sizeOf0
    v0 := Tryz.zeroValue0
    t4 := Tryz.underlying4
    a4 := Tryz.isAgg4
    z4 := Tryz.sizeOf4
    v4 := Tryz.zeroValue4
    t23 := Tryz.underlying123
    a23 := Tryz.isAgg123
    z23 := Tryz.sizeOf123
    v23 := Tryz.zeroValue123
    t26 := Tryz.underlying9
    a26 := Tryz.isAgg9
    z26 := Tryz.sizeOf9
    v26 := Tryz.zeroValue9
    t27 := Tryz.underlying120
    a27 := Tryz.isAgg120
    z27 := Tryz.sizeOf120
    v27 := Tryz.zeroValue120
    t28 := Tryz.underlying121
    a28 := Tryz.isAgg121
    z28 := Tryz.sizeOf121
    v28 := Tryz.zeroValue121
    t33 := Tryz.underlying204
    a33 := Tryz.isAgg204
    z33 := Tryz.sizeOf204
    v33 := Tryz.zeroValue204 }
def sortedA_ren : Go.Shelf.Ren := ⟨fun | 6 => 68 | 8 => 129 | 9 => 130 | 11 => 201 | 13 => 182 | 12 => 202 | 23 => 241 | 24 => 242 | 14 => 256 | 15 => 257 | 16 => 258 | 17 => 259 | 18 => 260 | 19 => 261 | 20 => 262 | 21 => 263 | 22 => 264 | 25 => 319 | 26 => 301 | 27 => 302 | 28 => 320 | 29 => 321 | 30 => 322 | 31 => 462 | n => n, fun | 26 => 9 | 28 => 121 | 24 => 45 | 0 => 0 | 3 => 3 | 37 => 22 | 48 => 358 | 50 => 360 | 4 => 4 | 40 => 352 | 39 => 351 | 45 => 215 | 5 => 5 | 9 => 9 | 51 => 409 | 55 => 401 | 57 => 489 | 58 => 447 | 33 => 204 | n => n, fun | n => n⟩
theorem sortedA : Go.Proofs.SlLaysZ.n6 Tryz.prog sortedA_ren :=
  { mixed := by kernel_rfl
    f6 := ⟨ "slices.Sorted[string]", by decide, Tryz.func68.trans (congrArg some (by kernel_rfl))⟩
    f8 := ⟨ "slices.Collect[string]", by decide, Tryz.func129.trans (congrArg some (by kernel_rfl))⟩
    f11 := ⟨ "slices.AppendSeq[[]string,string]", by decide, Tryz.func201.trans (congrArg some (by kernel_rfl))⟩
    t0 := Tryz.underlying0
    a0 := Tryz.isAgg0
    z0 := Tryz.sizeOf0
    v0 := Tryz.zeroValue0
    t24 := Tryz.underlying45
    a24 := Tryz.isAgg45
    z24 := Tryz.sizeOf45
    v24 := Tryz.zeroValue45
    t26 := Tryz.underlying9
    a26 := Tryz.isAgg9
    z26 := Tryz.sizeOf9
    v26 := Tryz.zeroValue9
    t28 := Tryz.underlying121
    a28 := Tryz.isAgg121
    z28 := Tryz.sizeOf121
    v28 := Tryz.zeroValue121
    i26 := by kernel_rfl }
def sortA_ren : Go.Shelf.Ren := ⟨fun | 6 => 130 | 8 => 182 | 9 => 202 | 19 => 241 | 20 => 242 | 21 => 256 | 22 => 257 | 23 => 258 | 24 => 259 | 25 => 260 | 26 => 261 | 27 => 262 | 28 => 263 | 29 => 264 | 36 => 319 | 31 => 301 | 32 => 302 | 37 => 320 | 38 => 321 | 39 => 322 | 41 => 462 | n => n, fun | 27 => 45 | 29 => 9 | 3 => 3 | 32 => 22 | 26 => 45 | 0 => 0 | 44 => 358 | 46 => 360 | 4 => 4 | 36 => 352 | 35 => 351 | 41 => 215 | 5 => 5 | 9 => 9 | 53 => 409 | 57 => 401 | 63 => 489 | 64 => 447 | n => n, fun | n => n⟩
theorem sortA : Go.Proofs.SlLaysM.n6 Tryz.prog sortA_ren :=
  { mixed := by kernel_rfl
    f6 := ⟨ "slices.Sort[[]string,string]", by decide, Tryz.func130.trans (congrArg some (by kernel_rfl))⟩
    f8 := Tryz.func182.trans (congrArg some (by kernel_rfl))
    f9 := ⟨ "slices.pdqsortOrdered[string]", by decide, Tryz.func202.trans (congrArg some (by kernel_rfl))⟩
    f19 := Tryz.func241.trans (congrArg some (by kernel_rfl))
    f20 := Tryz.func242.trans (congrArg some (by kernel_rfl))
    f21 := ⟨ "slices.insertionSortOrdered[string]", by decide, Tryz.func256.trans (congrArg some (by kernel_rfl))⟩
    f22 := ⟨ "slices.heapSortOrdered[string]", by decide, Tryz.func257.trans (congrArg some (by kernel_rfl))⟩
    f23 := ⟨ "slices.breakPatternsOrdered[string]", by decide, Tryz.func258.trans (congrArg some (by kernel_rfl))⟩
    f24 := ⟨ "slices.choosePivotOrdered[string]", by decide, Tryz.func259.trans (congrArg some (by kernel_rfl))⟩
    f25 := ⟨ "slices.reverseRangeOrdered[string]", by decide, Tryz.func260.trans (congrArg some (by kernel_rfl))⟩
    f26 := ⟨ "slices.partialInsertionSortOrdered[string]", by decide, Tryz.func261.trans (congrArg some (by kernel_rfl))⟩
    f27 := ⟨ "cmp.Less[string]", by decide, Tryz.func262.trans (congrArg some (by kernel_rfl))⟩
    f28 := ⟨ "slices.partitionEqualOrdered[string]", by decide, Tryz.func263.trans (congrArg some (by kernel_rfl))⟩
    f29 := ⟨ "slices.partitionOrdered[string]", by decide, Tryz.func264.trans (congrArg some (by kernel_rfl))⟩
    f31 := Tryz.func301.trans (congrArg some (by kernel_rfl))
    f32 := Tryz.func302.trans (congrArg some (by kernel_rfl))
    f36 := ⟨ "slices.siftDownOrdered[string]", by decide, Tryz.func319.trans (congrArg some (by kernel_rfl))⟩
    f37 := ⟨ "slices.medianAdjacentOrdered[string]", by decide, Tryz.func320.trans (congrArg some (by kernel_rfl))⟩
    f38 := ⟨ "slices.medianOrdered[string]", by decide, Tryz.func321.trans (congrArg some (by kernel_rfl))⟩
    f39 := ⟨ "cmp.isNaN[string]", by decide, Tryz.func322.trans (congrArg some (by kernel_rfl))⟩
    f41 := ⟨ "slices.order2Ordered[string]", by decide, Tryz.func462.trans (congrArg some (by kernel_rfl))⟩
    t0 := Tryz.underlying0
    a0 := Tryz.isAgg0
    z0 := Tryz.sizeOf0
    v0 := Tryz.zeroValue0
    t3 := Tryz.underlying3
    a3 := Tryz.isAgg3
    z3 := Tryz.sizeOf3
    v3 := Tryz.zeroValue3
    t4 := Tryz.underlying4
    a4 := Tryz.isAgg4
    z4 := Tryz.sizeOf4
    v4 := Tryz.zeroValue4
    t5 := Tryz.underlying5
    a5 := Tryz.isAgg5
    z5 := Tryz.sizeOf5
    v5 := Tryz.zeroValue5
    t9 := Tryz.underlying9
    a9 := Tryz.isAgg9
    z9 := Tryz.sizeOf9
    v9 := Tryz.zeroValue9
    t26 := Tryz.underlying45
    a26 := Tryz.isAgg45
    z26 := Tryz.sizeOf45
    v26 := Tryz.zeroValue45
    t27 := Tryz.underlying45
    a27 := Tryz.isAgg45
    z27 := Tryz.sizeOf45
    v27 := Tryz.zeroValue45
    t29 := Tryz.underlying9
    a29 := Tryz.isAgg9
    z29 := Tryz.sizeOf9
    v29 := Tryz.zeroValue9
    t32 := Tryz.underlying22
    a32 := Tryz.isAgg22
    z32 := Tryz.sizeOf22
    v32 := Tryz.zeroValue22
    t35 := Tryz.underlying351
    a35 := Tryz.isAgg351
    z35 := Tryz.sizeOf351
    v35 := Tryz.zeroValue351
    t36 := Tryz.underlying352
    a36 := Tryz.isAgg352
    z36 := Tryz.sizeOf352
    v36 := Tryz.zeroValue352
    t41 := Tryz.underlying215
    a41 := Tryz.isAgg215
    z41 := Tryz.sizeOf215
    v41 := Tryz.zeroValue215
    t44 := Tryz.underlying358
    a44 := Tryz.isAgg358
    z44 := Tryz.sizeOf358
    v44 := Tryz.zeroValue358
    t46 := Tryz.underlying360
    a46 := Tryz.isAgg360
    z46 := Tryz.sizeOf360
    v46 := Tryz.zeroValue360
    t53 := Tryz.underlying409
    a53 := Tryz.isAgg409
    z53 := Tryz.sizeOf409
    v53 := Tryz.zeroValue409
    t57 := Tryz.underlying401
    a57 := Tryz.isAgg401
    z57 := Tryz.sizeOf401
    v57 := Tryz.zeroValue401
    t63 := Tryz.underlying489
    a63 := Tryz.isAgg489
    z63 := Tryz.sizeOf489
    v63 := Tryz.zeroValue489
    t64 := Tryz.underlying447
    a64 := Tryz.isAgg447
    z64 := Tryz.sizeOf447
    v64 := Tryz.zeroValue447 }

theorem sortsA (m : Nat) : AnyZ.SortsIn Tryz.prog sortedA_ren Fence.wide m :=
  ⟨fun blk off cap ss W hH hblk hsz => callsIn_wide.2 (AnyM.slices_Sort_string sortA blk off cap ss W hH hblk hsz),
   fun p cap W => callsIn_wide.2 (AnyM.slices_Sort_string_none sortA p cap W)⟩
theorem seqNone (bm : Option Nat) (w : World) (h : bm = none ∨ ∃ r cl, bm = some r ∧ w.heap[r]? = some (.map #[] cl)) : ∃ Q : List (List UInt8) → Prop, (∀ ss, Q ss → ss = []) ∧
    SeqGives Fence.wide 2 Tryz.prog 131 #[.pointer (some ⟨w.heap.size, 0, none⟩)] encStr Q 0 (w.alloc (.cells #[.map bm] 123)) := by
  rcases h with rfl | ⟨r, cl, rfl, hr⟩
  · exact ⟨_, fun _ h => h, AnyZ.keys_gives_nil (ρ := keysA_ren) { keysA with } Fence.wide _ trivial rfl w.heap.size _ (by simp) (by simp)⟩
  · have hlt : r < w.heap.size := (Array.getElem?_eq_some_iff.1 hr).1
    have := AnyZ.keys_gives (ρ := keysA_ren) (H := Unit) { keysA with } Fence.wide 2 trivial rfl (by omega) w.heap.size r 0 (.map []) (R := fun _ => none) (w.alloc (.cells #[.map (some r)] 123)) (by simp) (by simp) ⟨#[], cl, (Below.heap_alloc _ _ r hlt).trans hr, ⟨Nat.zero_le _, ⟨fun x h => by simp at h, List.nodup_nil, List.nodup_nil⟩, fun x h => by simp at h⟩, Nat.le_refl _, rfl⟩
    exact ⟨_, fun ss h => List.Perm.eq_nil h, this⟩
set_option maxHeartbeats 1000000 in
theorem allR : Go.X.KeysR Tryz.prog 36 0 false := by
  refine ⟨fun bk o bm w hbk hc hn => ?_, fun h => by cases h⟩
  refine (callsIn_wide (n := 6)).1 ?_
  obtain ⟨Q, hQ, hseq⟩ := seqNone bm w hn
  have cK : ∀ mb W, CallsIn Fence.wide 5 Tryz.prog 69 #[.map mb] W fun e w' => e = .returned (.func (.func 131) #[] #[.pointer (some ⟨W.heap.size, 0, none⟩)]) ∧ w' = W.alloc (.cells #[.map mb] 123) := fun mb W => AnyZ.keys_in keysA Fence.wide 5 trivial rfl mb W
  have cS := AnyZ.sorted_in sortedA Fence.wide 5 trivial trivial trivial trivial rfl (by omega) (sortsA _) (enters_of Tryz.func130 (by kernel_rfl) rfl) 131 #[.pointer (some ⟨w.heap.size, 0, none⟩)] trivial (enters_of Tryz.func131 (by kernel_rfl) rfl) _ 0 (Nat.zero_le _) (by omega) _ hseq
  change CallsIn _ _ Tryz.prog 68 _ _ _ at cS
  have hfK : Fence.wide.fn 69 := trivial
  have hfS : Fence.wide.fn 68 := trivial
  rw [Nat.add_zero] at hc
  refine callsIn_of_wp Tryz.func36 rfl trivial ?_ rfl
  simp only [Tryz.ntmps36, List.size_toArray, List.length_cons, List.length_nil, Nat.reduceAdd, Nat.reduceSub, Array.replicate_succ, Array.replicate_zero, List.push_toArray, List.append_toArray, List.nil_append, List.cons_append]
  gi_wp2_with (first
    | (gi_at_call 69; refine (cK _ _).mono ?_; rintro e w' ⟨rfl, rfl⟩)
    | (gi_at_call 68; refine cS.mono ?_; rintro e w' ⟨v, ss, rfl, hS, hrow, hnil, hb⟩; obtain rfl := hQ _ hS; obtain rfl : v = .slice none 0 0 := hnil.2 rfl))
  refine wpIn_loop_rounds 1 ?_
  rw [roundsIn_succ]
  gi_wp2
  go_ret
  exact ⟨rfl, ((Below.refl _ w).alloc (Nat.le_refl _) _).trans (hb.mono (by simp))⟩
end Go.Proofs.YtcdiojlpmgfmeaaGreatDoor.KServerPipes
