/- strconv.ParseUint, run by the machine. No condition: definitions and lemmas. -/
import Derived.Test.YthmjeojcciefcaaDoorYa
import Derived.Test.YthmjeojcciefcaaDoorXe
import Derived.Test.YthmjeojcciefcaaDoorChecked
set_option linter.unusedVariables false
set_option linter.unusedSimpArgs false
namespace Go.X
/-- Is it that number, and no error? -/
def chkU (z : Nat) (l : List AV) (x : Prop) : Prop := match l with | [.int 3 (.ofNat y), .niface] => bT (Nat.beq y z) x | _ => False
noncomputable def runsU {D : Nat} (C : CallF D) (g : Nat) (hs : Hs D) (l : List (Nat × Nat)) : Prop := @List.rec (Nat × Nat) (fun _ => Prop) True (fun a _ ih => C g (aL [.str 2 a.1, .int 0 16, .int 0 8]) (fun v _ => v False False N1 N1 N2 N2 N2 N6 NL (fun l => chkU a.2 l ih) NO) (fun _ _ => False) hs) l
theorem chkU_out {z : Nat} {l : List AV} {x : Prop} (h : chkU z l x) : l = [.int 3 (z : Int), .niface] ∧ x := by
  unfold chkU at h
  split at h
  · rename_i y
    obtain ⟨h1, h2⟩ := bT_out h
    have := Nat.eq_of_beq_eq_true h1
    subst this
    exact ⟨rfl, h2⟩
  · exact h.elim
theorem tU_out {a : AV} {z : Nat} {x : Prop} (h : enc a False False N1 N1 N2 N2 N2 N6 NL (fun l => chkU z l x) NO) : a = .tup [.int 3 (z : Int), .niface] ∧ x := by
  have g := enc_cases h
  rcases g with ⟨_, g⟩ | ⟨_, g⟩ | ⟨m, _, g⟩ | ⟨m, _, g⟩ | ⟨c, n, _, _, g⟩ | ⟨n, x, _, g⟩ | ⟨b, o, _, g⟩ | ⟨b, o, l, c, s, x, _, g⟩ | ⟨l, _, g⟩ | ⟨l, e, g⟩ | ⟨_, g⟩ <;> first | exact g.elim | skip
  obtain ⟨h1, h2⟩ := chkU_out g
  subst h1
  exact ⟨e, h2⟩
theorem runsU_ok {P : Program} {D : Nat} {gl : List (Option (List AV))} (hG : gl.length = P.globals.size) (hgl : glOk D gl = true) {C : CallF D} (hC : CallFOk P C) {g : Nat} (hb : hasBody P g = true) :
    ∀ {l : List (Nat × Nat)}, runsU C g (hs0 D gl) l → ∀ a ∈ l, ∀ (W : World), TabsAt gl W → ∀ (vs : Array Value), VL (gEmb gl) [.str 2 a.1, .int 0 16, .int 0 8] vs.toList → Calls P g vs W fun e w' => e = .returned (.tuple #[.int .u64 (a.2 : Int), .nilIface]) ∧ RowKit.Below W.heap.size W w'
  | [], _, _, ha => by simp at ha
  | b :: l, h, a, ha => by
    obtain ⟨H0, hr, hn, hat⟩ := hs0_ok hgl
    obtain ⟨o, H', h1, h2⟩ := hC g [.str 2 b.1, .int 0 16, .int 0 8] _ _ _ _ H0 hb (aL_ok (by simp)) hr h
    obtain ⟨_, _, h1⟩ := h1
    cases o with
    | pan v => exact h1.elim
    | ret v =>
      obtain ⟨hv1, hx⟩ := tU_out h1
      subst hv1
      rcases List.mem_cons.1 ha with rfl | ha
      · intro W ht vs hv
        refine (h2 (gEmb gl) W vs (gEmb_HR hn hat ht) (fun g hg => ⟨by show g < gl.length; omega, rfl, rfl⟩) hv).mono fun e w' hp => ?_
        obtain ⟨f', s, u, rfl, hu⟩ := hp
        have hu' : u = .tuple #[.int .u64 (a.2 : Int), .nilIface] := by
          cases hu with
          | tup _ vs hv =>
            obtain ⟨v1, r1, rfl, g1, hv⟩ := hv.cons_inv
            obtain ⟨v2, r2, rfl, g2, hv⟩ := hv.cons_inv
            obtain rfl := hv.nil_inv
            obtain rfl := g1.intA
            cases g2
            rfl
        refine ⟨by rw [hu'], below_of_step s fun b hb => ?_⟩
        have := hat b
        cases e : glO gl b with
        | none => rw [e] at this; rw [AH.sem_ob, this]; rfl
        | some z => rw [e] at this; obtain ⟨c, h1, _⟩ := this; rw [AH.sem_ob, h1]; rfl
      · exact runsU_ok hG hgl hC hb hx a ha
def hexC : List Nat := [48, 49, 50, 51, 52, 53, 54, 55, 56, 57, 97, 98, 99, 100, 101, 102, 65, 66, 67, 68, 69, 70]
theorem hexv_mem {c x : Nat} (h : hexv c = some x) : c ∈ hexC := by
  unfold hexv at h
  unfold hexC
  simp only [List.mem_cons, List.not_mem_nil, or_false]
  split at h
  · rename_i g; unfold DP at g; omega
  split at h
  · omega
  split at h
  · omega
  · cases h
def hv' (c : Nat) : Nat := (hexv c).getD 0
def hexL : List (Nat × Nat) := hexC.flatMap fun a => hexC.map fun b => (a + 256 * b, 16 * hv' a + hv' b)
end Go.X
namespace Go.Proofs.YthmjeojcciefcaaDoor
open Go Go.X
set_option maxRecDepth 100000
set_option maxHeartbeats 0
def glN : List (Option (List AV)) := [none, none, none, none, none, none, none, none, none]
noncomputable def CN : CallF 5 := callF Tryd.prog 9 5 1000000 10000 (fun _ => none) 1000
def hexL' : List (Nat × Nat) := [(12336, 0), (12592, 1), (12848, 2), (13104, 3), (13360, 4), (13616, 5), (13872, 6), (14128, 7), (14384, 8), (14640, 9), (24880, 10), (25136, 11), (25392, 12), (25648, 13), (25904, 14), (26160, 15), (16688, 10), (16944, 11), (17200, 12), (17456, 13), (17712, 14), (17968, 15), (12337, 16), (12593, 17), (12849, 18), (13105, 19), (13361, 20), (13617, 21), (13873, 22), (14129, 23), (14385, 24), (14641, 25), (24881, 26), (25137, 27), (25393, 28), (25649, 29), (25905, 30), (26161, 31), (16689, 26), (16945, 27), (17201, 28), (17457, 29), (17713, 30), (17969, 31), (12338, 32), (12594, 33), (12850, 34), (13106, 35), (13362, 36), (13618, 37), (13874, 38), (14130, 39), (14386, 40), (14642, 41), (24882, 42), (25138, 43), (25394, 44), (25650, 45), (25906, 46), (26162, 47), (16690, 42), (16946, 43), (17202, 44), (17458, 45), (17714, 46), (17970, 47), (12339, 48), (12595, 49), (12851, 50), (13107, 51), (13363, 52), (13619, 53), (13875, 54), (14131, 55), (14387, 56), (14643, 57), (24883, 58), (25139, 59), (25395, 60), (25651, 61), (25907, 62), (26163, 63), (16691, 58), (16947, 59), (17203, 60), (17459, 61), (17715, 62), (17971, 63), (12340, 64), (12596, 65), (12852, 66), (13108, 67), (13364, 68), (13620, 69), (13876, 70), (14132, 71), (14388, 72), (14644, 73), (24884, 74), (25140, 75), (25396, 76), (25652, 77), (25908, 78), (26164, 79), (16692, 74), (16948, 75), (17204, 76), (17460, 77), (17716, 78), (17972, 79), (12341, 80), (12597, 81), (12853, 82), (13109, 83), (13365, 84), (13621, 85), (13877, 86), (14133, 87), (14389, 88), (14645, 89), (24885, 90), (25141, 91), (25397, 92), (25653, 93), (25909, 94), (26165, 95), (16693, 90), (16949, 91), (17205, 92), (17461, 93), (17717, 94), (17973, 95), (12342, 96), (12598, 97), (12854, 98), (13110, 99), (13366, 100), (13622, 101), (13878, 102), (14134, 103), (14390, 104), (14646, 105), (24886, 106), (25142, 107), (25398, 108), (25654, 109), (25910, 110), (26166, 111), (16694, 106), (16950, 107), (17206, 108), (17462, 109), (17718, 110), (17974, 111), (12343, 112), (12599, 113), (12855, 114), (13111, 115), (13367, 116), (13623, 117), (13879, 118), (14135, 119), (14391, 120), (14647, 121), (24887, 122), (25143, 123), (25399, 124), (25655, 125), (25911, 126), (26167, 127), (16695, 122), (16951, 123), (17207, 124), (17463, 125), (17719, 126), (17975, 127), (12344, 128), (12600, 129), (12856, 130), (13112, 131), (13368, 132), (13624, 133), (13880, 134), (14136, 135), (14392, 136), (14648, 137), (24888, 138), (25144, 139), (25400, 140), (25656, 141), (25912, 142), (26168, 143), (16696, 138), (16952, 139), (17208, 140), (17464, 141), (17720, 142), (17976, 143), (12345, 144), (12601, 145), (12857, 146), (13113, 147), (13369, 148), (13625, 149), (13881, 150), (14137, 151), (14393, 152), (14649, 153), (24889, 154), (25145, 155), (25401, 156), (25657, 157), (25913, 158), (26169, 159), (16697, 154), (16953, 155), (17209, 156), (17465, 157), (17721, 158), (17977, 159), (12385, 160), (12641, 161), (12897, 162), (13153, 163), (13409, 164), (13665, 165), (13921, 166), (14177, 167), (14433, 168), (14689, 169), (24929, 170), (25185, 171), (25441, 172), (25697, 173), (25953, 174), (26209, 175), (16737, 170), (16993, 171), (17249, 172), (17505, 173), (17761, 174), (18017, 175), (12386, 176), (12642, 177), (12898, 178), (13154, 179), (13410, 180), (13666, 181), (13922, 182), (14178, 183), (14434, 184), (14690, 185), (24930, 186), (25186, 187), (25442, 188), (25698, 189), (25954, 190), (26210, 191), (16738, 186), (16994, 187), (17250, 188), (17506, 189), (17762, 190), (18018, 191), (12387, 192), (12643, 193), (12899, 194), (13155, 195), (13411, 196), (13667, 197), (13923, 198), (14179, 199), (14435, 200), (14691, 201), (24931, 202), (25187, 203), (25443, 204), (25699, 205), (25955, 206), (26211, 207), (16739, 202), (16995, 203), (17251, 204), (17507, 205), (17763, 206), (18019, 207), (12388, 208), (12644, 209), (12900, 210), (13156, 211), (13412, 212), (13668, 213), (13924, 214), (14180, 215), (14436, 216), (14692, 217), (24932, 218), (25188, 219), (25444, 220), (25700, 221), (25956, 222), (26212, 223), (16740, 218), (16996, 219), (17252, 220), (17508, 221), (17764, 222), (18020, 223), (12389, 224), (12645, 225), (12901, 226), (13157, 227), (13413, 228), (13669, 229), (13925, 230), (14181, 231), (14437, 232), (14693, 233), (24933, 234), (25189, 235), (25445, 236), (25701, 237), (25957, 238), (26213, 239), (16741, 234), (16997, 235), (17253, 236), (17509, 237), (17765, 238), (18021, 239), (12390, 240), (12646, 241), (12902, 242), (13158, 243), (13414, 244), (13670, 245), (13926, 246), (14182, 247), (14438, 248), (14694, 249), (24934, 250), (25190, 251), (25446, 252), (25702, 253), (25958, 254), (26214, 255), (16742, 250), (16998, 251), (17254, 252), (17510, 253), (17766, 254), (18022, 255), (12353, 160), (12609, 161), (12865, 162), (13121, 163), (13377, 164), (13633, 165), (13889, 166), (14145, 167), (14401, 168), (14657, 169), (24897, 170), (25153, 171), (25409, 172), (25665, 173), (25921, 174), (26177, 175), (16705, 170), (16961, 171), (17217, 172), (17473, 173), (17729, 174), (17985, 175), (12354, 176), (12610, 177), (12866, 178), (13122, 179), (13378, 180), (13634, 181), (13890, 182), (14146, 183), (14402, 184), (14658, 185), (24898, 186), (25154, 187), (25410, 188), (25666, 189), (25922, 190), (26178, 191), (16706, 186), (16962, 187), (17218, 188), (17474, 189), (17730, 190), (17986, 191), (12355, 192), (12611, 193), (12867, 194), (13123, 195), (13379, 196), (13635, 197), (13891, 198), (14147, 199), (14403, 200), (14659, 201), (24899, 202), (25155, 203), (25411, 204), (25667, 205), (25923, 206), (26179, 207), (16707, 202), (16963, 203), (17219, 204), (17475, 205), (17731, 206), (17987, 207), (12356, 208), (12612, 209), (12868, 210), (13124, 211), (13380, 212), (13636, 213), (13892, 214), (14148, 215), (14404, 216), (14660, 217), (24900, 218), (25156, 219), (25412, 220), (25668, 221), (25924, 222), (26180, 223), (16708, 218), (16964, 219), (17220, 220), (17476, 221), (17732, 222), (17988, 223), (12357, 224), (12613, 225), (12869, 226), (13125, 227), (13381, 228), (13637, 229), (13893, 230), (14149, 231), (14405, 232), (14661, 233), (24901, 234), (25157, 235), (25413, 236), (25669, 237), (25925, 238), (26181, 239), (16709, 234), (16965, 235), (17221, 236), (17477, 237), (17733, 238), (17989, 239), (12358, 240), (12614, 241), (12870, 242), (13126, 243), (13382, 244), (13638, 245), (13894, 246), (14150, 247), (14406, 248), (14662, 249), (24902, 250), (25158, 251), (25414, 252), (25670, 253), (25926, 254), (26182, 255), (16710, 250), (16966, 251), (17222, 252), (17478, 253), (17734, 254), (17990, 255)]
theorem hexL_eq : hexL = hexL' := by decide +kernel
theorem pu_run : runsU CN 48 (hs0 5 glN) hexL' = True := by kernel_rfl
theorem hCN : CallFOk Tryd.prog CN := callF_ok (by kernel_rfl) (fun _ _ h => by cases h) 1000
theorem pu_calls {a b x y : Nat} (ha : hexv a = some x) (hb : hexv b = some y) (W : World) (vs : Array Value) (hv : VL (gEmb glN) [.str 2 (a + 256 * b), .int 0 16, .int 0 8] vs.toList) :
    Calls Tryd.prog 48 vs W fun e w' => e = .returned (.tuple #[.int .u64 ((16 * x + y : Nat) : Int), .nilIface]) ∧ RowKit.Below W.heap.size W w' := by
  have h := runsU_ok (by kernel_rfl) (by kernel_rfl) (C := CN) hCN (g := 48) (by kernel_rfl) (l := hexL') (by rw [pu_run]; trivial)
    (a + 256 * b, 16 * hv' a + hv' b) (by
      rw [← hexL_eq]
      unfold hexL
      rw [List.mem_flatMap]
      exact ⟨a, hexv_mem ha, List.mem_map.2 ⟨b, hexv_mem hb, rfl⟩⟩) W (fun b z hz => by
        exfalso
        have hz' : glN[b]?.getD none = some z := hz
        match b, hz' with
        | 0, h => cases h
        | 1, h => cases h
        | 2, h => cases h
        | 3, h => cases h
        | 4, h => cases h
        | 5, h => cases h
        | 6, h => cases h
        | 7, h => cases h
        | 8, h => cases h
        | b + 9, h => cases h) vs hv
  have e1 : hv' a = x := by unfold hv'; rw [ha]; rfl
  have e2 : hv' b = y := by unfold hv'; rw [hb]; rfl
  rw [e1, e2] at h
  exact h
/-- strconv.ParseUint of two hexadecimal digits. -/
def puK : AV → Int → Int → AH → KF → Prop := fun s p q H K => ∃ a b x y, s = strA [a, b] ∧ p = 16 ∧ q = 8 ∧ hexv a = some x ∧ hexv b = some y ∧ K (.ret (.tup [.int 3 ((16 * x + y : Nat) : Int), .niface])) H
theorem pu_ok : FunOk Tryd.prog 48 (fnX [.a, .i 0, .i 0] puK) := FunOk.of_below fun args H K hf => by
  match args, hf with
  | [s, .int 0 p, .int 0 q], hf =>
    obtain ⟨a, b, x, y, e1, e2, e3, ha, hb, hk⟩ : puK s p q H K := hf
    subst e1; subst e2; subst e3
    refine ⟨_, hk, fun f w vs _ _ hv => ?_⟩
    have hn : strA [a, b] = .str 2 (a + 256 * b) := by
      show AV.str 2 (a + 256 * (b + 256 * 0)) = _
      rw [Nat.mul_zero, Nat.add_zero]
    rw [hn] at hv
    have hv' : VL (gEmb glN) [.str 2 (a + 256 * b), .int 0 16, .int 0 8] vs.toList := by
      obtain ⟨v1, r1, e1, g1, hv⟩ := hv.cons_inv
      obtain ⟨v2, r2, rfl, g2, hv⟩ := hv.cons_inv
      obtain ⟨v3, r3, rfl, g3, hv⟩ := hv.cons_inv
      obtain rfl := hv.nil_inv
      rw [e1]
      refine .cons _ _ _ _ ?_ (.cons _ _ _ _ ?_ (.cons _ _ _ _ ?_ .nil))
      · cases g1 with | str _ _ h => exact .str _ _ h
      · cases g2; exact .int 0 16
      · cases g3; exact .int 0 8
    refine (pu_calls ha hb w vs hv').mono fun e w' ⟨he, hbl⟩ => ⟨⟨_, he, .tup _ [_, _] (.cons _ _ _ _ (.int 3 _) (.cons _ _ _ _ .niface .nil))⟩, hbl⟩
end Go.Proofs.YthmjeojcciefcaaDoor
