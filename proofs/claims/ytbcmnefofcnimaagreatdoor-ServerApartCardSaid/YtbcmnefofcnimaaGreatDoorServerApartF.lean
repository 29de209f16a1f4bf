/- 'ServerApart': the closed facts of the row: the type table's by what 'Checked' has paid, the call graph's by one walk. No condition. -/
import Derived.Test.YtbcmnefofcnimaaGreatDoorYG
import Derived.Test.YtbcmnefofcnimaaGreatDoorRows
import Derived.Test.YtbcmnefofcnimaaGreatDoorChecked
import Derived.ClosedOfChecked
import Derived.JoinedOf
import Derived.ProofKit
import Derived.WalkKit
namespace Go.Proofs.YtbcmnefofcnimaaGreatDoor.KServerApartF
open Go
set_option maxRecDepth 100000
set_option maxHeartbeats 0
theorem spec : ClosedOfChecked.AllSpec Tryz.prog := ClosedOfChecked.allSpec_of (src := Tryz.src) Tryz.wellFormed (by kernel_rfl)
theorem laid : laidOutB Tryz.pinned.checked.prog = true := ClosedOfChecked.laidOutB_of (P := Tryz.prog) spec (by kernel_rfl)
theorem maps : mapsRowed Tryz.pinned.checked.prog = true := ClosedOfChecked.mapsRowed_of (P := Tryz.prog) spec
theorem clo : (Tryz.pinned.checked.prog).closure 4 = [4, 7, 13, 32, 33, 35, 34, 64, 65, 66, 8, 20, 39, 70, 127, 197, 198, 239, 263, 264, 199, 200, 265, 266, 323, 324, 11, 21, 30, 40, 22, 41, 71, 128, 43, 42, 72, 129, 130, 44, 73, 74, 131, 49, 93, 167, 182, 243, 311, 315, 447, 132, 183, 241, 303, 446, 448, 545, 605, 659, 660, 606, 305, 661, 692, 607, 449, 450, 451, 452, 453, 454, 455, 69, 109, 184, 185, 186, 81, 75, 76, 88, 160, 227, 161, 133, 77, 78, 134, 201, 267, 268, 137, 202, 107, 101, 79, 80, 135, 54, 92, 165, 140, 228, 292, 348, 491, 91, 164, 492, 174, 349, 350, 493, 351, 494, 495, 500, 352, 353, 354, 496, 144, 205, 206, 207, 497, 242, 304, 307, 306, 308, 309, 310, 355, 356, 357, 358, 359, 360, 361, 363, 36, 68, 126, 67, 124, 195, 125, 177, 238, 196, 254, 260, 322, 255, 319, 256, 299, 300, 257, 320, 321, 461, 258, 259, 261, 262, 362, 136, 364, 365, 347, 490, 293, 366, 498, 175, 367, 499, 501, 368, 369, 370, 371, 372, 373, 374, 163, 375, 376, 377, 378, 502, 379, 380, 381, 294, 382, 383, 384, 503, 512, 514, 504, 515, 580, 583, 651, 652, 688, 702, 584, 653, 654, 689, 703, 506, 505, 513, 582, 650, 385, 386, 387, 507, 578, 579, 647, 648, 649, 388, 389, 508, 509, 390, 510, 391, 511, 581, 392, 393, 394, 395, 295, 396, 516, 585, 517, 586, 588, 655, 690, 589, 587, 518, 523, 591, 656, 519, 397, 398, 520, 399, 400, 521, 590, 401, 141, 402, 522, 403, 404, 405, 406, 407, 408, 296, 409, 423, 533, 597, 524, 592, 595, 657, 105, 178, 106, 179, 240, 104, 593, 525, 594, 530, 528, 596, 410, 526, 411, 527, 412, 413, 414, 415, 529, 416, 417, 418, 421, 419, 420, 422, 531, 532, 424, 425, 426, 427, 428, 429, 430, 431, 297, 432, 534, 535, 598, 536, 599, 600, 537, 601, 602, 658, 691, 538, 433, 539, 434, 540, 435, 436, 437, 541, 442, 544, 604, 438, 542, 603, 439, 543, 440, 441, 443, 444, 166, 56, 108, 180, 181, 57, 110, 111, 114, 189, 245, 248, 190, 246, 247, 314, 191, 250, 249, 316, 317, 187, 188, 192, 244, 312, 456, 546, 313, 100, 118, 82, 138, 83, 84, 139, 203, 269, 325, 462, 548, 609, 463, 549, 464, 465, 466, 467, 550, 610, 611, 662, 693, 694, 468, 551, 612, 663, 664, 552, 613, 665, 614, 615, 666, 616, 469, 553, 617, 326, 327, 328, 470, 329, 471, 554, 472, 473, 555, 618, 619, 558, 557, 620, 667, 695, 704, 707, 708, 709, 621, 669, 696, 706, 668, 670, 705, 556, 559, 560, 270, 330, 474, 475, 561, 562, 622, 671, 623, 697, 698, 625, 624, 672, 626, 627, 673, 628, 476, 331, 477, 478, 564, 565, 629, 479, 630, 633, 676, 699, 677, 678, 674, 675, 679, 638, 637, 680, 631, 632, 634, 636, 635, 639, 640, 563, 641, 681, 682, 700, 683, 204, 271, 332, 333, 480, 566, 567, 272, 251, 334, 335, 142, 147, 209, 143, 85, 145, 208, 146, 148, 210, 273, 336, 337, 274, 275, 97, 276, 171, 95, 173, 229, 216, 215, 86, 149, 150, 151, 152, 157, 211, 168, 212, 277, 278, 338, 339, 218, 219, 220, 213, 23, 45, 46, 87, 153, 214, 154, 156, 155, 217, 279, 280, 281, 282, 340, 286, 169, 221, 172, 285, 346, 341, 343, 481, 568, 642, 569, 643, 482, 483, 342, 170, 283, 284, 344, 484, 486, 485, 487, 488, 489, 570, 571, 572, 573, 574, 644, 684, 685, 686, 701, 575, 645, 687, 646, 576, 577, 345, 158, 159, 222, 223, 224, 225, 226, 287, 288, 289, 290, 291, 47, 48, 89, 162, 90, 50, 94, 96, 51, 52, 99, 98, 24, 53, 25, 55, 102, 176, 230, 231, 298, 232, 233, 301, 302, 445, 234, 235, 236, 237, 103, 26, 58, 112, 113, 59, 115, 116, 117, 119, 27, 60, 28, 61, 29, 62, 63, 120, 121, 122, 193, 194, 252, 253, 318, 457, 458, 459, 460, 547, 608, 123, 18, 12, 31, 9, 10, 14, 15] := YG.closure_of_bits (P := Tryz.prog) 100000 4 _ (by kernel_rfl)
theorem unf : (Rows.serverApartRow.unfollowed == (Tryz.pinned.checked.prog).unfollowed 4) = true := by
  unfold Program.unfollowed; rw [clo]; kernel_rfl
theorem unf1 : (Tryz.pinned.checked.prog).unfollowed 4 = true := by
  unfold Program.unfollowed; rw [clo]; kernel_rfl
theorem rec : (Rows.serverApartRow.recurses == (Tryz.pinned.checked.prog).recurses 4) = true := by
  unfold Program.recurses; rw [unf1, Bool.true_or]; kernel_rfl
theorem inpl : (Rows.serverApartRow.inPlace == (Tryz.pinned.checked.prog).inPlace 4) = true := by
  unfold Program.inPlace; rw [clo]; kernel_rfl
theorem named : (Rows.serverApartRow.named == (Tryz.pinned.checked.prog).varsNamed 4) = true := by
  unfold Program.varsNamed; rw [clo]; kernel_rfl
theorem heard : (Tryz.pinned.checked.prog).stopsHeard = true := by kernel_rfl
theorem may : (Tryz.pinned.checked.prog).mayEnter = true := by kernel_rfl
theorem closed : joinedFacts Tryz.pinned.checked.prog 4 Tryz.f4 (OpenSpec.ofChange Rows.serverApartSpec).bare Rows.serverApartRow = true := by
  unfold joinedFacts
  simp only [Bool.and_eq_true]
  repeat' apply And.intro
  all_goals first
    | with_reducible exact laid
    | with_reducible exact maps
    | with_reducible exact unf
    | with_reducible exact rec
    | with_reducible exact inpl
    | with_reducible exact named
    | with_reducible exact heard
    | with_reducible exact may
    | decide +kernel
end Go.Proofs.YtbcmnefofcnimaaGreatDoor.KServerApartF
