/- 'ServerPipes': what the row says holds. No condition. -/
import Derived.Test.YtcdiojlpmgfmeaaGreatDoorServerPipesA
import Derived.Test.YtcdiojlpmgfmeaaGreatDoorRows
import Derived.Test.YtcdiojlpmgfmeaaGreatDoorChecked
import Derived.Deep.DeepHandedRow
import Derived.Deep.DeepWitnessRowRef
import Derived.ProofKit
import Derived.OpenShut
import Derived.WalkKit
import Derived.ChangeVars
import Derived.LaidLaws
import Derived.Lib.LaidTab
import Derived.SevenTiedAt
namespace Go.Proofs.YtcdiojlpmgfmeaaGreatDoor.KServerPipes
open Go Go.X
open Go.ChangeShapes Go.WideShapes Go.ChangeAt Go.RowKit
set_option maxRecDepth 100000
set_option maxHeartbeats 0
set_option linter.unusedVariables false
theorem own : ownKnob Tryz.prog.godebug = none := by kernel_rfl
theorem gT : Tryz.prog.globalNamed "strings.asciiSpace" = some 5 := by kernel_rfl
theorem gTT : (Tryz.prog.globals[5]?).map (·.type) = some 670 := by kernel_rfl
theorem uA : Tryz.prog.underlying 670 = some (.array 256 5) := by kernel_rfl
theorem uE : Tryz.prog.underlying 5 = some (.int .u8) := by kernel_rfl
theorem cE : Tryz.prog.cellsOf 5 = 1 := by kernel_rfl
theorem cA : Tryz.prog.cellsOf 670 = 256 := by kernel_rfl
theorem tabIs {W : World} (h : laidMetH Tryz.prog Rows.serverPipesRow.laid W) : Lib.TabIs Tryz.prog W "strings.asciiSpace" .u8 Lib.asciiSpaceTab := by
  have h' : laidMet Tryz.prog Rows.serverPipesRow.laid W := h
  obtain ⟨ps, hp, _⟩ := h'
  obtain ⟨_, _, _, _, _, _, _, _, _, _, hp, _⟩ := hp
  obtain ⟨_, _, _, _, _, _, _, _, _, _, hp, _⟩ := hp
  obtain ⟨_, _, _, _, _, _, _, _, _, _, hp, _⟩ := hp
  obtain ⟨g', t', cs', fuel', p', q', hg', ht', hvar, hd, _, _⟩ := hp
  obtain rfl := Option.some.inj (gT.symm.trans hg')
  obtain rfl := Option.some.inj (gTT.symm.trans ht')
  have hd' : DataW.trod (fun _ => ()) Tryz.prog W 0 (fun _ => true) false fuel' 670 cs'.toList = some (Lib.tabData .u8 Lib.asciiSpaceTab, p') := by
    rw [hd]; exact congrArg (fun x => some (x, p')) (show Rows.laid_strings_asciiSpace = Lib.tabData .u8 Lib.asciiSpaceTab by kernel_rfl)
  unfold Lib.TabIs
  rw [hvar, ← Lib.cells_of_tab uA uE cE cA hd']
theorem glO_at (b : Nat) (z : List AV) (h : glO gl b = some z) : b = 5 ∧ z = spaces := by
  have hlen : gl.length = 10 := rfl
  unfold glO at h
  match b, h with
  | 0, h => cases h
  | 1, h => cases h
  | 2, h => cases h
  | 3, h => cases h
  | 4, h => cases h
  | 5, h => exact ⟨rfl, (Option.some.inj h).symm⟩
  | 6, h => cases h
  | 7, h => cases h
  | 8, h => cases h
  | 9, h => cases h
  | n + 10, h =>
    rw [List.getElem?_eq_none (by omega)] at h
    cases h
theorem tabsAt {W : World} (h : laidMetH Tryz.prog Rows.serverPipesRow.laid W) : TabsAt gl W := by
  intro b z hz
  obtain ⟨rfl, rfl⟩ := glO_at b z hz
  have h := tabIs h
  simp only [Lib.TabIs, World.var?, gT, Option.bind_some] at h
  split at h
  · rename_i cs t fr hb
    cases h
    obtain ⟨lo, hi⟩ := fr
    refine ⟨_, t, lo, hi, hb, by simp [spaces], fun i a hi => ?_⟩
    simp only [spaces, List.getElem?_map, Option.map_eq_some_iff] at hi
    obtain ⟨x, hx, rfl⟩ := hi
    exact ⟨.int .u8 x, by simp [hx], .int 1 x⟩
  · cases h

/-- A world that meets the condition. -/
noncomputable def laidWorld (os : Os) : World :=
  let w0 := World.holding Tryz.prog os ⟨#[], #[], []⟩
  { w0 with heap := (((((((((((w0.heap.modify 1 fun
      | .cells _ t frozen => .cells #[.int .u64 1, .int .u64 10, .int .u64 100, .int .u64 1000, .int .u64 10000, .int .u64 100000, .int .u64 1000000, .int .u64 10000000, .int .u64 100000000, .int .u64 1000000000, .int .u64 10000000000, .int .u64 100000000000, .int .u64 1000000000000, .int .u64 10000000000000, .int .u64 100000000000000, .int .u64 1000000000000000, .int .u64 10000000000000000, .int .u64 100000000000000000, .int .u64 1000000000000000000, .int .u64 10000000000000000000] t frozen
      | o => o).modify 3 fun
      | .cells _ t frozen => .cells #[.int .u8 0, .int .u8 1, .int .u8 28, .int .u8 2, .int .u8 29, .int .u8 14, .int .u8 24, .int .u8 3, .int .u8 30, .int .u8 22, .int .u8 20, .int .u8 15, .int .u8 25, .int .u8 17, .int .u8 4, .int .u8 8, .int .u8 31, .int .u8 27, .int .u8 13, .int .u8 23, .int .u8 21, .int .u8 19, .int .u8 16, .int .u8 7, .int .u8 26, .int .u8 12, .int .u8 18, .int .u8 6, .int .u8 11, .int .u8 5, .int .u8 10, .int .u8 9] t frozen
      | o => o).modify 4 fun
      | .cells _ t frozen => .cells #[.int .u8 0, .int .u8 1, .int .u8 56, .int .u8 2, .int .u8 57, .int .u8 49, .int .u8 28, .int .u8 3, .int .u8 61, .int .u8 58, .int .u8 42, .int .u8 50, .int .u8 38, .int .u8 29, .int .u8 17, .int .u8 4, .int .u8 62, .int .u8 47, .int .u8 59, .int .u8 36, .int .u8 45, .int .u8 43, .int .u8 51, .int .u8 22, .int .u8 53, .int .u8 39, .int .u8 33, .int .u8 30, .int .u8 24, .int .u8 18, .int .u8 12, .int .u8 5, .int .u8 63, .int .u8 55, .int .u8 48, .int .u8 27, .int .u8 60, .int .u8 41, .int .u8 37, .int .u8 16, .int .u8 46, .int .u8 35, .int .u8 44, .int .u8 21, .int .u8 52, .int .u8 32, .int .u8 23, .int .u8 11, .int .u8 54, .int .u8 26, .int .u8 40, .int .u8 15, .int .u8 34, .int .u8 20, .int .u8 31, .int .u8 10, .int .u8 25, .int .u8 14, .int .u8 19, .int .u8 9, .int .u8 13, .int .u8 8, .int .u8 7, .int .u8 6] t frozen
      | o => o).modify 5 fun
      | .cells _ t frozen => .cells (Lib.asciiSpaceTab.map fun z => Value.int .u8 z).toArray t frozen
      | o => o).modify 6 fun
      | .cells _ t frozen => .cells #[.pointer (some ⟨w0.heap.size + 0, 0, none⟩)] t frozen
      | o => o).modify 7 fun
      | .cells _ t frozen => .cells #[.iface 729 (.pointer (some ⟨w0.heap.size + 2, 0, none⟩))] t frozen
      | o => o).modify 8 fun
      | .cells _ t frozen => .cells #[.iface 729 (.pointer (some ⟨w0.heap.size + 3, 0, none⟩))] t frozen
      | o => o).push (.cells #[.slice (some ⟨w0.heap.size + 1, 0, none⟩) 7 7, .slice none 0 0, .int .i64 2] 721)).push (.cells #[.int .u16 9, .int .u16 13, .int .u16 1, .int .u16 32, .int .u16 133, .int .u16 101, .int .u16 160, .int .u16 5760, .int .u16 5600, .int .u16 8192, .int .u16 8202, .int .u16 1, .int .u16 8232, .int .u16 8233, .int .u16 1, .int .u16 8239, .int .u16 8287, .int .u16 48, .int .u16 12288, .int .u16 12288, .int .u16 1] 724)).push (.cells #[.string ⟨#[105, 110, 118, 97, 108, 105, 100, 32, 115, 121, 110, 116, 97, 120]⟩] 731)).push (.cells #[.string ⟨#[118, 97, 108, 117, 101, 32, 111, 117, 116, 32, 111, 102, 32, 114, 97, 110, 103, 101]⟩] 731)) }
theorem laid_met (os : Os) (args : Array Value) : laidMetH Tryz.prog Rows.serverPipesRow.laid ((laidWorld os).forCall (fun _ _ => 0) ⟨#[], args, []⟩).memory :=
  show laidMet Tryz.prog Rows.serverPipesRow.laid ((laidWorld os).forCall (fun _ _ => 0) ⟨#[], args, []⟩).memory from laidMet_of_run' 8 (by kernel_rfl) (by kernel_rfl)
theorem witness_row (os : Os) {H : Type} (enc : TypeId × Value → H) :
    (OpenSpec.ofChange Rows.serverPipesSpec).preRow enc Tryz.prog Tryz.f3 Rows.serverPipesRow.domain false Rows.serverPipesRow.laid ((laidWorld os).forCall (fun _ _ => 0) ⟨#[], #[.int .i64 0, .int .i64 0], []⟩).memory #[.int .i64 0, .int .i64 0] := by
  have hw : (DataW.whole enc Tryz.prog ((laidWorld os).forCall (fun _ _ => 0) ⟨#[], #[.int .i64 0, .int .i64 0], []⟩).memory Tryz.f3.params.toList (OpenSpec.ofChange Rows.serverPipesSpec).vars false (#[.int .i64 0, .int .i64 0] : Array Value).toList 8).map (fun x => (x.1, x.2.1)) =
      some ([.lit (.int .i64 0), .lit (.int .i64 0)], []) := by kernel_rfl
  obtain ⟨⟨x1, x2, x3⟩, hx, hx1⟩ := Option.map_eq_some_iff.1 hw
  simp only [Prod.mk.injEq] at hx1
  obtain ⟨rfl, rfl⟩ := hx1
  exact OpenSpec.preRow_of_cond 8 hx (by kernel_rfl) (fun k hk => by cases hk) (by kernel_rfl) (laid_met os _)

theorem walk (a0 : Int) (a1 : Int) (W : World) (ht : TabsAt gl W) :
    Calls Tryz.prog 3 #[.int .i64 a0, .int .i64 a1] W fun e W' => e = .returned (.bool true) ∧ Below W.heap.size W W' := by
  exact all (a0 % 18446744073709551616 % 20).toNat (by omega) (a1 % 18446744073709551616 % 3).toNat (by omega) W ht #[.int .i64 a0, .int .i64 a1] (.cons _ _ _ _ (.symU 20 _ a0 (by omega)) (.cons _ _ _ _ (.symU 3 _ a1 (by omega)) .nil))

theorem lifted (os : Os) (started : os.Started) (H : Type) (enc : TypeId × Value → H) (F : Stop.Interp) :
    ReturnsInHanded {} Tryz.checked os 3 .any ((OpenSpec.ofChange Rows.serverPipesSpec).preRow enc Tryz.prog Tryz.f3 Rows.serverPipesRow.domain false Rows.serverPipesRow.laid) (((OpenSpec.ofChange Rows.serverPipesSpec).at F).post enc Tryz.prog Tryz.f3 false true false false) := by
  refine returnsInHanded_of_row (C := Tryz.checked) (s := OpenSpec.ofChange Rows.serverPipesSpec) own started (by kernel_rfl) Tryz.func3
    (witness_row_atRef (enc := enc) (C := Tryz.checked) false (laidWorld os) #[.int .i64 0, .int .i64 0] rfl (by kernel_rfl) (by kernel_rfl) (by kernel_rfl) (witness_row os enc)) ?_
  intro W base args ds gs before hval0 hW _ _ _ hL _ _
  have hval : ∀ (j : Nat) t v, Tryz.f3.params[j]? = some t → args[j]? = some v → Value.okWide Tryz.prog W .any base t v := hval0
  have hW' := hW
  obtain ⟨p, q, hA0, hV0, rfl, _, _⟩ := hW
  have hA : DataW.TrodAll enc Tryz.prog W 0 (fun _ => true) true Tryz.f3.params.toList args.toList ds p := hA0
  rw [Tryz.params3] at hA hval
  obtain ⟨v0, vs0, d0, ds0, p0, q0, hargs, rfl, rfl, h0, r0⟩ := trodAll_cons hA
  obtain ⟨v1, vs1, d1, ds1, p1, q1, rfl, rfl, rfl, h1, r1⟩ := trodAll_cons r0
  obtain ⟨rfl, rfl, rfl⟩ := trodAll_nil r1
  obtain rfl : args = #[v0, v1] := by cases args; simp_all
  obtain ⟨a0, rfl, rfl, rfl, w0⟩ := open_int Tryz.underlying3 (hval 0 3 v0 rfl rfl) h0
  obtain ⟨a1, rfl, rfl, rfl, w1⟩ := open_int Tryz.underlying3 (hval 1 3 v1 rfl rfl) h1
  obtain ⟨rfl, rfl⟩ := trodVars_none hV0
  clear hA0 hV0 hval0
  simp only [List.append_nil] at hW'
  refine (walk a0 a1 W (tabsAt hL)).mono fun e W' ⟨he, bel⟩ => ?_
  subst he
  refine ⟨_, rfl, _, _, _, [], [], [], hW', ?_, ?_, rfl, bel.frame _, fun h => by cases h⟩
  · exact trodAll_mk1 (shut_bool Tryz.underlying4 true)
  · exact (trodAll_cons_mk (shut_int Tryz.underlying3 w0) (trodAll_cons_mk (shut_int Tryz.underlying3 w1) trodAll_mk0))
end Go.Proofs.YtcdiojlpmgfmeaaGreatDoor.KServerPipes
