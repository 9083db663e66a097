/- The closed facts of the row of ReachCuts, one by one. -/
import Derived.Test.YtladepjfgjlpoaaGreatDoorRows
import Derived.ProofKit
import Derived.Stop.Joined
import Derived.Test.YtladepjfgjlpoaaGreatDoorExeGn
set_option maxRecDepth 100000
namespace Go.Proofs.YtladepjfgjlpoaaGreatDoor
open Go Go.Proofs
theorem and_mk {a b : Bool} (h : a = true) (k : b = true) : (a && b) = true := by rw [h, k]; rfl
theorem rc_closure : Tryz.prog.closure 3 = [3, 4, 10, 25, 63, 64, 65, 115, 178, 179, 255, 180, 181, 116, 117, 119, 173, 109, 183, 118, 182, 110, 27, 67, 121, 193, 194, 120, 184, 190, 261, 185, 256, 186, 257, 258, 187, 259, 260, 323, 188, 189, 191, 192, 68, 26, 66, 28, 69, 8, 21, 59, 81, 133, 11, 5, 12, 29, 30, 31, 32, 70, 71, 94, 122, 48, 123, 34, 74, 75, 129, 207, 208, 274, 344, 76, 78, 130, 77, 33, 72, 73, 124, 195, 262, 196, 264, 197, 265, 324, 415, 325, 326, 327, 416, 493, 417, 494, 527, 528, 529, 550, 328, 263, 329, 330, 418, 331, 419, 332, 333, 420, 334, 421, 125, 198, 199, 266, 201, 126, 267, 202, 128, 200, 203, 268, 335, 336, 269, 108, 204, 205, 270, 271, 337, 338, 422, 423, 424, 428, 425, 495, 427, 496, 530, 551, 567, 586, 433, 587, 342, 430, 497, 498, 340, 532, 56, 431, 432, 343, 434, 435, 499, 533, 534, 552, 572, 589, 535, 339, 558, 577, 574, 553, 573, 590, 575, 576, 578, 554, 579, 581, 580, 555, 582, 556, 557, 426, 568, 588, 569, 570, 571, 531, 272, 341, 429, 273, 127, 206, 35, 36, 79, 80, 131, 132, 37, 82, 134, 135, 83, 38, 84, 39, 85, 86, 136, 209, 40, 13, 14, 41, 42, 87, 46, 49, 95, 151, 96, 152, 223, 211, 98, 224, 225, 99, 156, 93, 144, 154, 153, 138, 91, 145, 218, 281, 92, 282, 349, 146, 219, 283, 350, 351, 215, 210, 213, 284, 352, 438, 501, 502, 536, 537, 503, 504, 538, 539, 559, 560, 285, 286, 287, 353, 439, 505, 440, 508, 437, 500, 540, 561, 347, 348, 506, 507, 147, 142, 217, 278, 345, 290, 216, 346, 436, 279, 280, 148, 220, 288, 296, 359, 289, 444, 514, 547, 515, 548, 517, 516, 445, 358, 297, 354, 355, 441, 509, 541, 510, 356, 291, 442, 511, 542, 562, 563, 583, 543, 545, 544, 512, 513, 546, 564, 584, 443, 357, 227, 51, 292, 293, 221, 149, 222, 150, 226, 97, 155, 88, 137, 212, 275, 43, 44, 89, 139, 140, 214, 277, 276, 141, 143, 90, 45, 15, 47, 50, 16, 52, 100, 157, 228, 229, 294, 295, 158, 230, 101, 103, 107, 165, 169, 170, 171, 245, 314, 376, 309, 172, 246, 159, 104, 315, 392, 393, 160, 231, 240, 239, 298, 360, 390, 162, 237, 236, 311, 446, 465, 299, 361, 362, 54, 106, 383, 447, 372, 233, 308, 306, 391, 238, 310, 363, 448, 370, 300, 364, 374, 365, 449, 450, 366, 367, 368, 369, 301, 371, 451, 164, 452, 373, 453, 375, 302, 377, 378, 454, 455, 456, 457, 379, 458, 459, 518, 460, 461, 462, 380, 381, 303, 382, 384, 385, 304, 386, 387, 241, 312, 242, 388, 463, 389, 464, 305, 232, 307, 234, 466, 163, 519, 394, 395, 467, 520, 468, 521, 549, 566, 565, 585, 469, 470, 396, 471, 397, 472, 398, 473, 474, 399, 400, 475, 401, 476, 402, 403, 404, 477, 478, 479, 480, 405, 406, 481, 482, 522, 523, 483, 407, 408, 484, 524, 525, 491, 485, 486, 409, 410, 487, 488, 526, 411, 489, 490, 412, 413, 492, 414, 105, 166, 167, 243, 313, 244, 168, 102, 161, 235, 17, 53, 55, 18, 57, 19, 58, 6, 7, 9, 23, 24, 62, 22, 60, 111, 61, 112, 174, 247, 248, 249, 250, 251, 316, 317, 318, 319, 320, 253, 113, 175, 252, 254, 321, 322, 114, 177, 176, 20] := by kernel_rfl
theorem rc_c0 : (Rows.reachCutsRow.wf (OpenSpec.ofChange Rows.reachCutsSpec)) = true := by kernel_rfl
theorem rc_c1 : (laidOutB Tryz.prog) = true := by kernel_rfl
theorem rc_c2 : (mapsRowed Tryz.prog) = true := by kernel_rfl
theorem rc_c3 : (Tryz.f3.params.all (Tryz.prog.readableRec ·)) = true := by kernel_rfl
theorem rc_c4 : (namedTie Tryz.prog Rows.reachCutsRow.named Rows.reachCutsSpec.vars) = true := by kernel_rfl
theorem rc_c5 : ((Rows.reachCutsRow.stops == [])) = true := by kernel_rfl
theorem rc_c6 : ((Tryz.prog.stops == [])) = true := by kernel_rfl
theorem rc_c7 : ((Rows.reachCutsRow.knobs == [])) = true := by kernel_rfl
theorem rc_c8 : ((Tryz.prog.stopKnobs == [])) = true := by kernel_rfl
theorem rc_c9 : ((Rows.reachCutsRow.inPlace == Tryz.prog.inPlace 3)) = true := by unfold Program.inPlace; rw [rc_closure]; kernel_rfl
theorem rc_c10 : ((Rows.reachCutsRow.unfollowed == Tryz.prog.unfollowed 3)) = true := by kernel_rfl
theorem rc_c11 : ((Rows.reachCutsRow.recurses == Tryz.prog.recurses 3)) = true := by kernel_rfl
theorem rc_c12 : ((Rows.reachCutsRow.named == Tryz.prog.varsNamed 3)) = true := by rw [Exe.Tryz.varsNamed_of rc_closure]; kernel_rfl
theorem rc_c13 : ((Rows.reachCutsRow.maps == (Tryz.f3.params.toList ++ Rows.reachCutsSpec.plain.varTypes Tryz.prog).any (Tryz.prog.mapsRec ·))) = true := by kernel_rfl
theorem rc_c14 : ((Rows.reachCutsRow.ifaces == (Tryz.f3.params.toList ++ Rows.reachCutsSpec.plain.varTypes Tryz.prog).any (Tryz.prog.ifacesRec ·))) = true := by kernel_rfl
theorem rc_c15 : ((Rows.reachCutsRow.mapsOut == Tryz.prog.mapsAmong Tryz.f3.resultTypes.toList)) = true := by kernel_rfl
theorem rc_c16 : ((Rows.reachCutsRow.loops == (Tryz.f3.params.toList ++ Rows.reachCutsSpec.plain.varTypes Tryz.prog).any (Tryz.prog.loopsFrom ·))) = true := by kernel_rfl
theorem rc_c17 : ((Rows.reachCutsRow.wideKeys == (Tryz.f3.params.toList ++ Rows.reachCutsSpec.plain.varTypes Tryz.prog ++ Tryz.f3.resultTypes.toList).any (Tryz.prog.wideKeysFrom ·))) = true := by kernel_rfl
theorem rc_c18 : (Rows.reachCutsSpec.vars.all (Tryz.prog.varReadable ·)) = true := by kernel_rfl
theorem rc_c19 : (Tryz.f3.resultTypes.all (fun t => Tryz.prog.readableRec t && decide (t < Tryz.prog.types.size))) = true := by kernel_rfl
theorem rc_c20 : ((Rows.reachCutsRow.ifacesOut == Tryz.f3.resultTypes.toList.any (Tryz.prog.ifacesRec ·))) = true := by kernel_rfl
theorem rc_c21 : ((Rows.reachCutsRow.loopsOut == Tryz.f3.resultTypes.toList.any (Tryz.prog.loopsFrom ·))) = true := by kernel_rfl
theorem rc_c22 : ((Rows.reachCutsRow.plainKeys == Tryz.prog.plainKeys)) = true := by kernel_rfl
theorem rc_c23 : (Rows.reachCutsRow.shortTexts.isNone) = true := by kernel_rfl
theorem rc_c24 : (Tryz.prog.stopsHeard) = true := by kernel_rfl
theorem rc_c25 : (Tryz.prog.mayEnter) = true := by kernel_rfl
theorem rc_c26 : ((Rows.reachCutsRow.lifted == Tryz.prog.liftsFinal)) = true := by kernel_rfl
theorem rc_c27 : ((Tryz.prog.make == some Rows.reachCutsRow.make)) = true := by kernel_rfl
theorem rc_c28 : ((Rows.reachCutsRow.kinds == (if Rows.reachCutsRow.domain.isEmpty then [] else Tryz.f3.params.toList.map fun t => match Tryz.prog.underlying t with | some (.int k) => some k | _ => none))) = true := by kernel_rfl
theorem rc_c29 : ((Rows.reachCutsRow.pinned == Rows.reachCutsRow.pinnedBy)) = true := by kernel_rfl
theorem rc_c30 : ((Rows.reachCutsRow.veiled == (Tryz.f3.params.toList ++ Rows.reachCutsSpec.plain.varTypes Tryz.prog ++ Tryz.f3.resultTypes.toList).any (Tryz.prog.veiledRec ·))) = true := by kernel_rfl
theorem rc_c31 : (Rows.reachCutsRow.veiledFits Tryz.prog Tryz.f3.params.toList (Tryz.f3.params.toList ++ Rows.reachCutsSpec.plain.varTypes Tryz.prog ++ Tryz.f3.resultTypes.toList)) = true := by kernel_rfl
theorem rc_closed : joinedFacts Tryz.prog 3 Tryz.f3 Rows.reachCutsSpec Rows.reachCutsRow = true := and_mk (and_mk (and_mk (and_mk (and_mk (and_mk (and_mk (and_mk (and_mk (and_mk (and_mk (and_mk (and_mk (and_mk (and_mk (and_mk (and_mk (and_mk (and_mk (and_mk (and_mk (and_mk (and_mk (and_mk (and_mk (and_mk (and_mk (and_mk (and_mk (and_mk (and_mk (rc_c0) rc_c1) rc_c2) rc_c3) rc_c4) rc_c5) rc_c6) rc_c7) rc_c8) rc_c9) rc_c10) rc_c11) rc_c12) rc_c13) rc_c14) rc_c15) rc_c16) rc_c17) rc_c18) rc_c19) rc_c20) rc_c21) rc_c22) rc_c23) rc_c24) rc_c25) rc_c26) rc_c27) rc_c28) rc_c29) rc_c30) rc_c31
end Go.Proofs.YtladepjfgjlpoaaGreatDoor
