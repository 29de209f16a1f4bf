/- The functions of the program as plain Lean. No condition: definitions and lemmas. -/
import Derived.Test.YthjmjehfcjchfaaGa
set_option linter.unusedVariables false
set_option linter.unusedSimpArgs false
namespace Go.Proofs.Ythjmjehfcjchfaa.G
open Go Go.X
set_option maxRecDepth 100000
set_option maxHeartbeats 0
set_option linter.unusedVariables false
theorem f6_p4_ok (R : f6_R) (hR : CTblOk Try.prog (f6_ct R)) (K : KF) (i4 : Bool → Int → Int → AV → Int → AV → Int → AH → Prop) (g4 : PcOk Try.prog f6_b (finK Try.prog noCD f6_f K) [0, 1, 0, 1, 1, 1, 1, 1, 1, 1] 136 [1, 7, 8, 9, 10, 11, 12] [.b, .i 0, .i 0, .a, .i 0, .a, .i 0] i4) : PcOk Try.prog f6_b (finK Try.prog noCD f6_f K) [0, 1, 0, 1, 1, 1, 1, 1, 1, 1] 136 [1, 7, 8, 9, 10, 11, 12] [.b, .i 0, .i 0, .a, .i 0, .a, .i 0] (f6_p4 R K i4) := f6_q4_ok R hR K (f6_p11 R K i4) (f6_p8 R K i4) (f6_p2 R K) (f6_p11_ok R hR K i4 g4) (f6_p8_ok R hR K i4 g4) (f6_p2_ok R hR K)
noncomputable def f6_l4 (R : f6_R) (K : KF) (n : Nat) : Bool → Int → Int → AV → Int → AV → Int → AH → Prop := Nat.rec (motive := fun _ => Bool → Int → Int → AV → Int → AV → Int → AH → Prop) (fun _ _ _ _ _ _ _ _ => False) (fun _ i => f6_p4 R K i) n
theorem f6_l4_ok (R : f6_R) (hR : CTblOk Try.prog (f6_ct R)) (K : KF) (n : Nat) : PcOk Try.prog f6_b (finK Try.prog noCD f6_f K) [0, 1, 0, 1, 1, 1, 1, 1, 1, 1] 136 [1, 7, 8, 9, 10, 11, 12] [.b, .i 0, .i 0, .a, .i 0, .a, .i 0] (f6_l4 R K n) := by
  induction n with
  | zero => exact fun a1 a7 a8 a9 a10 a11 a12 H h => h.elim
  | succ n ih => exact f6_p4_ok R hR K (f6_l4 R K n) ih
noncomputable def f6_q1 (R : f6_R) (K : KF) (x4 : Bool → Int → Int → AV → Int → AV → Int → AH → Prop) (a1 : Bool) (a7 : Int) (a8 : Int) (a9 : AV) (H : AH) : Prop := x4 a1 a7 a8 a9 (.ofNat 0) (.func 19 [] []) (.ofNat 0) H
theorem f6_q1_e (R : f6_R) (K : KF) (x4 : Bool → Int → Int → AV → Int → AV → Int → AH → Prop) (a1 : Bool) (a7 : Int) (a8 : Int) (a9 : AV) (H : AH) : f6_q1 R K x4 a1 a7 a8 a9 H = pieceX (callT (f6_ct R)) (drawA Try.prog (callT (f6_ct R))) Try.prog Try.prog.globals.size f6_b (encT [([0, 1, 0, 1, 1, 1, 1, 1, 1, 1], orcX 136 [1, 7, 8, 9, 10, 11, 12] [.b, .i 0, .i 0, .a, .i 0, .a, .i 0] x4)]) (finK Try.prog noCD f6_f K) 400 [1, 1, 1, 1, 1] (fillX 136 [1, 7, 8, 9] [(.bool a1), (.int 0 a7), (.int 0 a8), a9]) [] H := by kernel_rfl
theorem f6_q1_ok (R : f6_R) (hR : CTblOk Try.prog (f6_ct R)) (K : KF) (x4 : Bool → Int → Int → AV → Int → AV → Int → AH → Prop) (h4 : PcOk Try.prog f6_b (finK Try.prog noCD f6_f K) [0, 1, 0, 1, 1, 1, 1, 1, 1, 1] 136 [1, 7, 8, 9, 10, 11, 12] [.b, .i 0, .i 0, .a, .i 0, .a, .i 0] x4) : PcOk Try.prog f6_b (finK Try.prog noCD f6_f K) [1, 1, 1, 1, 1] 136 [1, 7, 8, 9] [.b, .i 0, .i 0, .a] (f6_q1 R K x4) := fun a1 a7 a8 a9 H h =>
  pieceX_ok (callT_ok hR) (drawA_ok mix _ (callT_ok hR)) (t := [([0, 1, 0, 1, 1, 1, 1, 1, 1, 1], orcX 136 [1, 7, 8, 9, 10, 11, 12] [.b, .i 0, .i 0, .a, .i 0, .a, .i 0] x4)]) (PTblOk.cons (orc_ok h4) PTblOk.nil) (Eq.mp (f6_q1_e R K x4 a1 a7 a8 a9 H) h)
noncomputable def f6_p1 (R : f6_R) (K : KF) : Bool → Int → Int → AV → AH → Prop := f6_q1 R K (f6_l4 R K NL)
theorem f6_p1_ok (R : f6_R) (hR : CTblOk Try.prog (f6_ct R)) (K : KF) : PcOk Try.prog f6_b (finK Try.prog noCD f6_f K) [1, 1, 1, 1, 1] 136 [1, 7, 8, 9] [.b, .i 0, .i 0, .a] (f6_p1 R K) := f6_q1_ok R hR K (f6_l4 R K NL) (f6_l4_ok R hR K NL)
noncomputable def f6_q0 (R : f6_R) (K : KF) (x1 : Bool → Int → Int → AV → AH → Prop) (a0 : Int) (a1 : Bool) (a2 : Int) (H : AH) : Prop := wrapK 3 a0 fun z1 => bI (iEq (.ofNat 300) 0) False (forceI (Int.tmod z1 (.ofNat 300)) fun z2 => wrapK 0 z2 fun z3 => wrapK 0 (Int.add (.ofNat 1) z3) fun z4 => wrapK 3 a2 fun z5 => bI (iEq (.ofNat 9) 0) False (forceI (Int.tmod z5 (.ofNat 9)) fun z6 => wrapK 0 z6 fun z7 => wrapK 0 (Int.add (.ofNat 2) z7) fun z8 => R.2.2.2.1  H fun o9 H10 => cR K o9 H10 fun v11 => pPEq true v11 .nptr H10 fun v12 => onB v12 fun z13 => bI z13 (K (.ret (.bool false)) H10) (x1 a1 z4 z8 v11 H10)))
theorem f6_q0_e (R : f6_R) (K : KF) (x1 : Bool → Int → Int → AV → AH → Prop) (a0 : Int) (a1 : Bool) (a2 : Int) (H : AH) : f6_q0 R K x1 a0 a1 a2 H = pieceX (callT (f6_ct R)) (drawA Try.prog (callT (f6_ct R))) Try.prog Try.prog.globals.size f6_b (encT [([1, 1, 1, 1, 1], orcX 136 [1, 7, 8, 9] [.b, .i 0, .i 0, .a] x1)]) (finK Try.prog noCD f6_f K) 400 [] (frameA f6_f [(.int 0 a0), (.bool a1), (.int 0 a2)]) [] H := by kernel_rfl
theorem f6_q0_ok (R : f6_R) (hR : CTblOk Try.prog (f6_ct R)) (K : KF) (x1 : Bool → Int → Int → AV → AH → Prop) (h1 : PcOk Try.prog f6_b (finK Try.prog noCD f6_f K) [1, 1, 1, 1, 1] 136 [1, 7, 8, 9] [.b, .i 0, .i 0, .a] x1) (a0 : Int) (a1 : Bool) (a2 : Int) (H : AH) (h : f6_q0 R K x1 a0 a1 a2 H) : SAt Try.prog f6_b (finK Try.prog noCD f6_f K) [] (frameA f6_f [(.int 0 a0), (.bool a1), (.int 0 a2)]) [] H :=
  pieceX_ok (callT_ok hR) (drawA_ok mix _ (callT_ok hR)) (t := [([1, 1, 1, 1, 1], orcX 136 [1, 7, 8, 9] [.b, .i 0, .i 0, .a] x1)]) (PTblOk.cons (orc_ok h1) PTblOk.nil) (Eq.mp (f6_q0_e R K x1 a0 a1 a2 H) h)
noncomputable def f6_p0 (R : f6_R) (K : KF) : Int → Bool → Int → AH → Prop := f6_q0 R K (f6_p1 R K)
theorem f6_p0_ok (R : f6_R) (hR : CTblOk Try.prog (f6_ct R)) (K : KF) (a0 : Int) (a1 : Bool) (a2 : Int) (H : AH) (h : f6_p0 R K a0 a1 a2 H) : SAt Try.prog f6_b (finK Try.prog noCD f6_f K) [] (frameA f6_f [(.int 0 a0), (.bool a1), (.int 0 a2)]) [] H := f6_q0_ok R hR K (f6_p1 R K) (f6_p1_ok R hR K) a0 a1 a2 H h
noncomputable def f6_r (R : f6_R) : Int → Bool → Int → AH → KF → Prop := fun a0 a1 a2 H K => f6_p0 R K a0 a1 a2 H
theorem f6_rok (R : f6_R) (hR : CTblOk Try.prog (f6_ct R)) : FunOk Try.prog 6 (fnX [.i 0, .b, .i 0] (f6_r R)) := FunOk.of_root (fn := f6_f) (body := f6_b) (by kernel_rfl) (by kernel_rfl) fun K => (fun a0 a1 a2 H h => f6_p0_ok R hR K a0 a1 a2 H h : AllT [.i 0, .b, .i 0] (f6_r R) fun r l => ∀ H, r H K → SAt Try.prog f6_b (finK Try.prog noCD f6_f K) [] (frameA f6_f l) [] H)
noncomputable def f6_rr : f6_R := (f7, f13, f14, f18, f19, f20, f21)
noncomputable def f6 : Int → Bool → Int → AH → KF → Prop := f6_r f6_rr
theorem f6_ok : FunOk Try.prog 6 (fnX [.i 0, .b, .i 0] f6) := f6_rok f6_rr (CTblOk.cons f7_ok (CTblOk.cons f13_ok (CTblOk.cons f14_ok (CTblOk.cons f18_ok (CTblOk.cons f19_ok (CTblOk.cons f20_ok (CTblOk.cons f21_ok CTblOk.nil)))))))
end Go.Proofs.Ythjmjehfcjchfaa.G
