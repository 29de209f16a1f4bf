/- The law, from what is asked of its callees. No condition. -/
import Derived.Test.YtcdiojlpmgfmeaaGreatDoorQQ
namespace Go.Proofs.YtcdiojlpmgfmeaaGreatDoor.Q
open Go Go.RowKit Go.Proofs Go.Maps Go.WideMaps Go.ChangeMaps
set_option maxRecDepth 100000
set_option linter.unusedSimpArgs false
set_option linter.unusedVariables false
/-- What holds while the law goes on. -/
structure LawS (W0 : World) (c : Loc) (a : Option Addr) (out : List Ev) (w : World) : Prop where
  inv : Inv c w
  row : Row w a out
  ap : ∀ b x, a = some ⟨b, x, none⟩ → c.base ≤ b ∧ ∃ cur, w.heap[b]? = some (.cells cur 29 (0, 0))
  below : Below W0.heap.size W0 w
  new : c.From W0.heap.size
theorem LawS.foot {W0 : World} {c : Loc} {a : Option Addr} {out : List Ev} {w w' : World} (s : LawS W0 c a out w) (hi : Inv c w') (f : Foot c w w') : LawS W0 c a out w' := by
  have hlt := s.inv.lt
  have same : ∀ b x, a = some ⟨b, x, none⟩ → w'.heap[b]? = w.heap[b]? := fun b x ha => by
    obtain ⟨hB, cur, hc⟩ := s.ap b x ha
    exact f.block b (Array.getElem?_eq_some_iff.1 hc).1 (by omega) (by omega) (fun hm => by have := (s.inv.bs b hm).1; omega) fun cur' e => by rw [hc] at e; cases e
  refine ⟨hi, s.row.keep f.size fun b x ha _ => same b x ha, fun b x ha => ⟨(s.ap b x ha).1, by rw [same b x ha]; exact (s.ap b x ha).2⟩, ⟨f.os.trans s.below.os, f.tape.trans s.below.tape, f.output.trans s.below.output, Nat.le_trans s.below.size f.size, fun k hk => ?_⟩, s.new⟩
  · have n1 := s.new.S
    have n2 := s.new.L
    have n3 := s.new.base
    exact (f.old k (by omega) (by omega) (by omega) (fun hm => by have := s.new.ss k hm; omega)).trans (s.below.block k hk)
theorem LawS.below' {W0 : World} {c : Loc} {a : Option Addr} {out : List Ev} {w w' : World} (s : LawS W0 c a out w) (b : Below w.heap.size w w') : LawS W0 c a out w' := s.foot (s.inv.below b) (Foot.of_below s.inv.bz b)
end Go.Proofs.YtcdiojlpmgfmeaaGreatDoor.Q
