/- TopQuiet: the law, for whatever events come in. No condition. -/
import Derived.Test.YtcdiojlpmgfmeaaGreatDoorQT
import Derived.Test.YtcdiojlpmgfmeaaGreatDoorTopQuietK
import Derived.Test.YtcdiojlpmgfmeaaGreatDoorTopQuietO
namespace Go.Proofs.YtcdiojlpmgfmeaaGreatDoor.KTopQuiet
open Go Go.X
set_option maxRecDepth 100000
set_option linter.unusedSimpArgs false
set_option linter.unusedVariables false
theorem hG : gl.length = Tryz.prog.globals.size := by kernel_rfl
theorem hgl : glOk 5 gl = true := by kernel_rfl
theorem hmx : Tryz.prog.follows .mixedOrders = true := by kernel_rfl
theorem hC0 : CallFOk Tryz.prog C00 := callF_ok hmx (fun _ _ h => by cases h) 4000
theorem hBk : hasBody Tryz.prog 14 = true := by kernel_rfl
theorem rK : CallsT Tryz.prog gl 14 [] := runs_ok hG hgl hC0 hBk (fun a ha => by rw [List.mem_singleton.1 ha]; exact Nat.zero_le _) (of_eq_true ek) [] (List.mem_singleton.2 rfl)
theorem lt_of_cell {w : World} {b i : Nat} {v : Value} (h : w.cell? ⟨b, i, none⟩ = some v) : b < w.heap.size := by
  cases e : w.heap[b]? with
  | none => unfold World.cell? at h; simp [e] at h
  | some o => exact (Array.getElem?_eq_some_iff.1 e).1
theorem allN (X XM : Nat) : Q.AllN X XM 0 := fun w hc hm => allR.none_ X 0 (some XM) w (lt_of_cell hc) (by simpa using hc) (.inr ⟨XM, 0, rfl, hm⟩)
theorem namN (D M : Nat) : Q.NamesN D M 0 := fun w hc hm => namesR.none_ D 0 (some M) w (lt_of_cell hc) (by simpa using hc) (.inr ⟨M, 0, rfl, hm⟩)
theorem tabs_below {W w : World} (h : TabsAt gl W) (b : RowKit.Below W.heap.size W w) : TabsAt gl w := fun k z hz => by
  obtain ⟨cur, e, lo, hi, h1, h2⟩ := h k z hz
  exact ⟨cur, e, lo, hi, (b.block k (Array.getElem?_eq_some_iff.1 h1).1).trans h1, h2⟩
theorem walk {H : Type} {enc : TypeId × Value → H} {W : World} {b0 : Nat} {v : Value} {d : DataW H} {ps : List MemPlace} (hv : Value.okWide Tryz.prog W .any b0 34 v) (hd : DataW.Trod enc Tryz.prog W 0 (fun _ => true) true 34 v d ps)
    (ht : TabsAt gl W) : Calls Tryz.prog 4 #[v] W fun e W' => e = .returned (.bool true) ∧ RowKit.Below W.heap.size W W' := by
  obtain ⟨a, cap, l, rfl, hr, hl, hs⟩ := Q.arg_row hv hd
  have hT : ∀ w, RowKit.Below W.heap.size W w → Calls Tryz.prog 14 #[] w fun e w' => e = .returned (.bool true) ∧ RowKit.Below w.heap.size w w' := fun w b => rK w (tabs_below ht b) #[] .nil
  by_cases hG : Q.Good l
  · exact Q.law_yes hr hs hl hG allN namN hT
  · exact Q.law_no hr hs hl hG (hT W (RowKit.Below.refl _ _))
end Go.Proofs.YtcdiojlpmgfmeaaGreatDoor.KTopQuiet
