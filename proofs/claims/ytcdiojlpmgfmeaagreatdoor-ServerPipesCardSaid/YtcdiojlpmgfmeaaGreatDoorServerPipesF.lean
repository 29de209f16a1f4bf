/- 'ServerPipes': the closed facts of the row: the type table's by what 'Checked' has paid, the call graph's by one walk. No condition. -/
import Derived.Test.YtcdiojlpmgfmeaaGreatDoorYG
import Derived.Test.YtcdiojlpmgfmeaaGreatDoorRows
import Derived.Test.YtcdiojlpmgfmeaaGreatDoorChecked
import Derived.ClosedOfChecked
import Derived.JoinedOf
import Derived.ProofKit
import Derived.WalkKit
namespace Go.Proofs.YtcdiojlpmgfmeaaGreatDoor.KServerPipesF
open Go
set_option maxRecDepth 100000
set_option maxHeartbeats 0
theorem spec : ClosedOfChecked.AllSpec Tryz.prog := ClosedOfChecked.allSpec_of (src := Tryz.src) Tryz.wellFormed (by kernel_rfl)
theorem laid : laidOutB Tryz.pinned.checked.prog = true := ClosedOfChecked.laidOutB_of (P := Tryz.prog) spec (by kernel_rfl)
theorem maps : mapsRowed Tryz.pinned.checked.prog = true := ClosedOfChecked.mapsRowed_of (P := Tryz.prog) spec
theorem clo : (Tryz.pinned.checked.prog).closure 3 = [3, 5, 20, 39, 40, 42, 41, 72, 73, 74, 7, 6, 8, 21, 32, 43, 22, 44, 75, 133, 46, 45, 76, 134, 135, 203, 265, 266, 242, 323, 324, 267, 268, 325, 326, 463, 464, 128, 200, 47, 77, 78, 136, 52, 97, 172, 187, 246, 313, 315, 449, 137, 188, 244, 305, 448, 450, 548, 607, 661, 662, 608, 307, 663, 694, 609, 451, 452, 453, 454, 455, 456, 457, 70, 113, 189, 190, 191, 85, 79, 80, 92, 165, 230, 166, 138, 81, 82, 139, 204, 269, 270, 142, 205, 111, 105, 83, 84, 140, 57, 96, 170, 145, 231, 294, 350, 494, 95, 169, 495, 179, 351, 352, 496, 353, 497, 498, 503, 354, 355, 356, 499, 149, 208, 209, 210, 500, 245, 306, 309, 308, 310, 311, 312, 357, 358, 359, 360, 361, 362, 363, 365, 36, 69, 131, 68, 129, 201, 130, 182, 241, 202, 256, 262, 322, 257, 319, 258, 301, 302, 259, 320, 321, 462, 260, 261, 263, 264, 364, 141, 366, 367, 349, 493, 295, 368, 501, 180, 369, 502, 504, 370, 371, 372, 373, 374, 375, 376, 168, 377, 378, 379, 380, 505, 381, 382, 383, 296, 384, 385, 386, 506, 515, 517, 507, 518, 582, 585, 653, 654, 690, 704, 586, 655, 656, 691, 705, 509, 508, 516, 584, 652, 387, 388, 389, 510, 580, 581, 649, 650, 651, 390, 391, 511, 512, 392, 513, 393, 514, 583, 394, 395, 396, 397, 297, 398, 519, 587, 520, 588, 590, 657, 692, 591, 589, 521, 526, 593, 658, 522, 399, 400, 523, 401, 402, 524, 592, 403, 146, 404, 525, 405, 406, 407, 408, 409, 410, 298, 411, 425, 536, 599, 527, 594, 597, 659, 109, 183, 110, 184, 243, 108, 595, 528, 596, 533, 531, 598, 412, 529, 413, 530, 414, 415, 416, 417, 532, 418, 419, 420, 423, 421, 422, 424, 534, 535, 426, 427, 428, 429, 430, 431, 432, 433, 299, 434, 537, 538, 600, 539, 601, 602, 540, 603, 604, 660, 693, 541, 435, 542, 436, 543, 437, 438, 439, 544, 444, 547, 606, 440, 545, 605, 441, 546, 442, 443, 445, 446, 171, 59, 112, 185, 186, 60, 114, 115, 118, 194, 247, 250, 195, 248, 249, 314, 196, 252, 251, 316, 317, 192, 193, 197, 18, 37, 71, 132, 38, 104, 122, 86, 143, 87, 88, 144, 206, 271, 327, 465, 550, 611, 466, 551, 467, 468, 469, 470, 552, 612, 613, 664, 695, 696, 471, 553, 614, 665, 666, 554, 615, 667, 616, 617, 668, 618, 472, 555, 619, 328, 329, 330, 473, 331, 474, 556, 475, 476, 557, 620, 621, 560, 559, 622, 669, 697, 706, 709, 710, 711, 623, 671, 698, 708, 670, 672, 707, 558, 561, 562, 272, 332, 477, 478, 563, 564, 624, 673, 625, 699, 700, 627, 626, 674, 628, 629, 675, 630, 479, 333, 480, 481, 566, 567, 631, 482, 632, 635, 678, 701, 679, 680, 676, 677, 681, 640, 639, 682, 633, 634, 636, 638, 637, 641, 642, 565, 643, 683, 684, 702, 685, 207, 273, 334, 335, 483, 568, 569, 274, 253, 336, 337, 147, 152, 212, 148, 89, 150, 211, 151, 153, 213, 275, 338, 339, 276, 277, 101, 278, 176, 99, 178, 232, 219, 218, 90, 154, 155, 156, 157, 162, 214, 173, 215, 279, 280, 340, 341, 221, 222, 223, 216, 23, 48, 49, 91, 158, 217, 159, 161, 160, 220, 281, 282, 283, 284, 342, 288, 174, 224, 177, 287, 348, 343, 345, 484, 570, 644, 571, 645, 485, 486, 344, 175, 285, 286, 346, 487, 489, 488, 490, 491, 492, 572, 573, 574, 575, 576, 646, 686, 687, 688, 703, 577, 647, 689, 648, 578, 579, 347, 163, 164, 225, 226, 227, 228, 229, 289, 290, 291, 292, 293, 50, 51, 93, 167, 94, 53, 98, 100, 54, 55, 103, 102, 24, 56, 25, 58, 106, 181, 233, 234, 300, 235, 236, 303, 304, 447, 237, 238, 239, 240, 107, 26, 61, 116, 117, 62, 119, 120, 121, 123, 27, 63, 28, 64, 29, 65, 66, 124, 125, 126, 198, 199, 254, 255, 318, 458, 459, 460, 461, 549, 610, 127, 9, 11, 33, 10, 30, 19, 31, 12, 34] := YG.closure_of_bits (P := Tryz.prog) 100000 3 _ (by kernel_rfl)
theorem unf : (Rows.serverPipesRow.unfollowed == (Tryz.pinned.checked.prog).unfollowed 3) = true := by
  unfold Program.unfollowed; rw [clo]; kernel_rfl
theorem unf1 : (Tryz.pinned.checked.prog).unfollowed 3 = true := by
  unfold Program.unfollowed; rw [clo]; kernel_rfl
theorem rec : (Rows.serverPipesRow.recurses == (Tryz.pinned.checked.prog).recurses 3) = true := by
  unfold Program.recurses; rw [unf1, Bool.true_or]; kernel_rfl
theorem inpl : (Rows.serverPipesRow.inPlace == (Tryz.pinned.checked.prog).inPlace 3) = true := by
  unfold Program.inPlace; rw [clo]; kernel_rfl
theorem named : (Rows.serverPipesRow.named == (Tryz.pinned.checked.prog).varsNamed 3) = true := by
  unfold Program.varsNamed; rw [clo]; kernel_rfl
theorem heard : (Tryz.pinned.checked.prog).stopsHeard = true := by kernel_rfl
theorem may : (Tryz.pinned.checked.prog).mayEnter = true := by kernel_rfl
theorem closed : joinedFacts Tryz.pinned.checked.prog 3 Tryz.f3 (OpenSpec.ofChange Rows.serverPipesSpec).bare Rows.serverPipesRow = true := by
  unfold joinedFacts
  simp only [Bool.and_eq_true]
  repeat' apply And.intro
  all_goals first
    | with_reducible exact laid
    | with_reducible exact maps
    | with_reducible exact unf
    | with_reducible exact rec
    | with_reducible exact inpl
    | with_reducible exact named
    | with_reducible exact heard
    | with_reducible exact may
    | decide +kernel
end Go.Proofs.YtcdiojlpmgfmeaaGreatDoor.KServerPipesF
