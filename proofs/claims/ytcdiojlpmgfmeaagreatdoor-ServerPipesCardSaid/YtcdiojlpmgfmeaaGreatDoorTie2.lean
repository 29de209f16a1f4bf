/- The tie of the laid variables to the program's text, each closed fact a theorem of its own (the kernel gives its memory back behind each). No condition. -/
import Derived.Test.YtcdiojlpmgfmeaaGreatDoorRows
import Derived.LaidByTextLater
import Derived.SevenTiedAt
import Derived.LaidSub
import Derived.LaidOnce
namespace Go.Proofs.YtcdiojlpmgfmeaaGreatDoor
open Go
set_option maxRecDepth 100000
set_option maxHeartbeats 0
set_option linter.unusedVariables false
namespace TieText
abbrev LL : List (String × DataW Unit) := [("internal/strconv.uint64pow10", Rows.laid_internal_strconv_uint64pow10), ("math/bits.deBruijn32tab", Rows.laid_math_bits_deBruijn32tab), ("math/bits.deBruijn64tab", Rows.laid_math_bits_deBruijn64tab), ("strings.asciiSpace", Rows.laid_strings_asciiSpace), ("unicode.White_Space", Rows.laid_unicode_White_Space), ("strconv.ErrSyntax", Rows.laid_strconv_ErrSyntax), ("strconv.ErrRange", Rows.laid_strconv_ErrRange)]
noncomputable abbrev cd : Code := (Tryz.f746.body).getD .skip
noncomputable abbrev st : List Nat := (cd.laysInOrder []).getD []
theorem vid : varsId Tryz.prog = 746 := by kernel_rfl
theorem t_1 : Tryz.prog.worded (varsWordLater true) = true := by kernel_rfl
theorem t_2 : Tryz.prog.worded (varsWordLater !true) = false := by kernel_rfl
theorem t_3 : Tryz.prog.worded rootWordLater = true := by kernel_rfl
theorem t_4 : LL.map (fun x => Tryz.prog.kindOfLater x.1) = ([.data, .data, .data, .data, .listed, .sentinel, .sentinel] : List LaidKind).map some := by kernel_rfl
theorem t_5 : (Tryz.prog.funcNamed "gosem.cut.vars").isSome = true := by kernel_rfl
theorem n1 : (Tryz.prog.funcs[746]?).bind (·.body) = some cd := by kernel_rfl
theorem n2 : cd.laysInOrder [] = some st := by kernel_rfl
theorem n3 : (st.eraseDups.length == st.length) = true := by kernel_rfl
theorem n4 : (!cd.unfollowedBeside Tryz.prog) = true := by kernel_rfl
theorem n5 : (cd.tempsApart 0).isSome = true := by kernel_rfl
theorem n6 : cd.regionsFit Tryz.prog [] = true := by kernel_rfl
theorem n7 : ((cd.storedByHandle Tryz.prog).isEmpty || ((Tryz.prog.funcNamed "(internal/reflectlite.rtype).Elem").any fun h => (Tryz.prog.funcs[h]?).any fun fn => fn.body.isNone && !entryCalls fn)) = true := by kernel_rfl
theorem n8 : ((cd.storedByHandle Tryz.prog).all fun v => Tryz.prog.globalNamed "errors.errorType" == some v) = true := by kernel_rfl
theorem n9 : Tryz.prog.callsLaidAlone 746 cd = true := by
  unfold Program.callsLaidAlone
  rw [n4, n5, n6, n7, n8]
  rfl
theorem n10 : (LL.all fun x => (Tryz.prog.globalNamed x.1).any fun v => (st.contains v == (Tryz.prog.kindBase x.1 != some .zero)) && callsFit cd v (Tryz.prog.kindBase x.1) &&
          ((cd.storedByHandle Tryz.prog).contains v == (Tryz.prog.kindBase x.1 == some .handle)) && (x.2.handleName?.isSome == (Tryz.prog.kindBase x.1 == some .handle || Tryz.prog.kindBase x.1 == some .funcs)) &&
          (Tryz.prog.kindBase x.1 != some .handle || handlePair x) && (x.2.funcsIn?.isSome == (Tryz.prog.kindBase x.1 == some .funcs)) && mapsFit cd v x.2 (Tryz.prog.kindBase x.1)) = true := by kernel_rfl
theorem t_6 : varsNamedLaterB Tryz.prog (varsId Tryz.prog) LL = true := by
  unfold varsNamedLaterB
  rw [vid, n1]
  dsimp only
  rw [n2]
  dsimp only
  rw [n3, n9, n10]
  rfl
noncomputable def R7 (os : Os) (tape : Tape) := runN Tryz.prog 400 (Machine.entering Tryz.prog (World.unlaid Tryz.prog os) tape 746 ⟨#[], #[], []⟩)
noncomputable def W7 (os : Os) (tape : Tape) : World := match R7 os tape with | .ended (.done _) w => w | _ => World.unlaid Tryz.prog os
noncomputable def X7 (os : Os) (tape : Tape) := ((DataW.laidRun Tryz.prog (W7 os tape).memory 8 ((LL.filter fun x => x.2.handleName?.isNone).map (·.1)))).getD ([], [])
theorem c0 : ∀ (os : Os) (tape : Tape), (match R7 os tape with | .ended (.done _) w => true | _ => false) = true := fun _ _ => by kernel_rfl
theorem c1 : ∀ (os : Os) (tape : Tape), DataW.laidRun Tryz.prog (W7 os tape).memory 8 ((LL.filter fun x => x.2.handleName?.isNone).map (·.1)) = some (X7 os tape) := fun _ _ => by kernel_rfl
theorem c2 : ∀ (os : Os) (tape : Tape), (X7 os tape).1 = LL.filter fun x => x.2.handleName?.isNone := fun _ _ => by kernel_rfl
theorem c3 : ∀ (os : Os) (tape : Tape), nodupBits 257 (X7 os tape).2 0 = true := fun _ _ => by kernel_rfl
theorem c4 : ∀ (os : Os) (tape : Tape), laidRowsB Tryz.prog (W7 os tape).memory (X7 os tape).2 = true := fun _ _ => by kernel_rfl
theorem c5 : ∀ (os : Os) (tape : Tape), (LL.filter fun x => x.2.handleName?.isSome && x.2.funcsIn?.isNone).all (handleAtB Tryz.prog (W7 os tape).memory) = true := fun _ _ => by kernel_rfl
theorem c6 : ∀ (os : Os) (tape : Tape), funcsRun Tryz.prog (W7 os tape).memory 8 ((funcsListed LL).map (·.1)) = some ((funcsListed LL).map (·.2.funcsOut)) := fun _ _ => by kernel_rfl
theorem run7 (os : Os) (tape : Tape) : ∃ v, R7 os tape = .ended (.done v) (W7 os tape) := by
  have h := c0 os tape
  unfold W7
  split at h
  · rename_i v w e
    exact ⟨v, by rw [e]⟩
  · cases h
/-- The door's leaves out of its parts (letters for the program and the list: nothing is worked out here). -/
theorem leaves {P : Program} {n fuel M g : Nat} {laid : List (String × DataW Unit)} {os : Os} {tape : Tape} {v : Value} {w : World} {x : List (String × DataW Unit) × List MemPlace} {y : List (DataW (List UInt8))} (hg : varsId P = g)
    (h0 : runN P n (Machine.entering P (World.unlaid P os) tape g ⟨#[], #[], []⟩) = .ended (.done v) w)
    (h1 : DataW.laidRun P w.memory fuel ((laid.filter fun x => x.2.handleName?.isNone).map (·.1)) = some x) (h3 : nodupBits M x.2 0 = true) (h4 : laidRowsB P w.memory x.2 = true)
    (h5 : (laid.filter fun x => x.2.handleName?.isSome && x.2.funcsIn?.isNone).all (handleAtB P w.memory) = true) (h6 : funcsRun P w.memory fuel ((funcsListed laid).map (·.1)) = some y) :
    doorLeaves P n fuel M laid os tape = some (x.1, y) := by
  unfold doorLeaves
  rw [hg, h0]
  simp only [h1, Option.bind_some, h3, h4, h5, Bool.and_self, if_true, h6, Option.map_some]
theorem t_7 : ∀ os tape, doorLeaves Tryz.prog 400 8 257 LL os tape = some (LL.filter fun x => x.2.handleName?.isNone, (funcsListed LL).map (·.2.funcsOut)) := by
  intro os tape
  obtain ⟨v, e⟩ := run7 os tape
  rw [← c2 os tape]
  exact leaves vid e (c1 os tape) (c3 os tape) (c4 os tape) (c5 os tape) (c6 os tape)
end TieText
theorem seatTie1 : Tryz.prog.laidByTextLater [("internal/strconv.uint64pow10", Rows.laid_internal_strconv_uint64pow10), ("math/bits.deBruijn32tab", Rows.laid_math_bits_deBruijn32tab), ("math/bits.deBruijn64tab", Rows.laid_math_bits_deBruijn64tab), ("strings.asciiSpace", Rows.laid_strings_asciiSpace), ("unicode.White_Space", Rows.laid_unicode_White_Space), ("strconv.ErrSyntax", Rows.laid_strconv_ErrSyntax), ("strconv.ErrRange", Rows.laid_strconv_ErrRange)] [.data, .data, .data, .data, .listed, .sentinel, .sentinel] true :=
  Program.laidByTextLater_by_one 400 8 257 TieText.t_1 TieText.t_2 TieText.t_3 TieText.t_4 TieText.t_5 TieText.t_6 TieText.t_7
theorem noOwnUnsafe : Tryz.pinned.checked.prog.headLifts.contains "ownunsafe" = false := by kernel_rfl
theorem tie : Tryz.prog.laidByTextLater [("internal/strconv.uint64pow10", Rows.laid_internal_strconv_uint64pow10), ("math/bits.deBruijn32tab", Rows.laid_math_bits_deBruijn32tab), ("math/bits.deBruijn64tab", Rows.laid_math_bits_deBruijn64tab), ("strings.asciiSpace", Rows.laid_strings_asciiSpace), ("unicode.White_Space", Rows.laid_unicode_White_Space), ("strconv.ErrSyntax", Rows.laid_strconv_ErrSyntax), ("strconv.ErrRange", Rows.laid_strconv_ErrRange)] [.data, .data, .data, .data, .listed, .sentinel, .sentinel] true :=
  seatTie1
theorem serverPipes_row_tie : Rows.serverPipesRow.laidByTextAt .later Tryz.pinned [.data, .data, .data, .data, .listed, .sentinel, .sentinel] true :=
  OpenClaim.laidByTextAt_later rfl rfl tie noOwnUnsafe
theorem topQuiet_row_tie : Rows.topQuietRow.laidByTextAt .later Tryz.pinned [.data, .data, .data, .data, .listed, .sentinel, .sentinel] true :=
  OpenClaim.laidByTextAt_later rfl rfl tie noOwnUnsafe
end Go.Proofs.YtcdiojlpmgfmeaaGreatDoor
