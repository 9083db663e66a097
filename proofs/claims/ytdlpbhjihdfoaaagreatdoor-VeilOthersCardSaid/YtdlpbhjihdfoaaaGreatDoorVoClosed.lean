/- The closed facts of the law's row, one by one. -/
import Derived.Test.YtdlpbhjihdfoaaaGreatDoorRows
import Derived.ProofKit
import Derived.Stop.Joined
import Derived.Test.YtdlpbhjihdfoaaaGreatDoorExeGn
set_option maxRecDepth 100000
namespace Go.Proofs.YtdlpbhjihdfoaaaGreatDoor
open Go Go.Proofs
theorem and_mk {a b : Bool} (h : a = true) (k : b = true) : (a && b) = true := by rw [h, k]; rfl
theorem vo_closure : Tryz.prog.closure 4 = [4, 7, 8, 15, 13, 23, 24, 25, 26, 58, 59, 51, 101, 19, 102, 28, 63, 64, 110, 159, 160, 215, 282, 65, 67, 111, 66, 27, 60, 61, 103, 147, 203, 148, 205, 149, 206, 262, 318, 263, 264, 265, 319, 406, 320, 407, 479, 480, 481, 507, 266, 204, 267, 268, 321, 269, 322, 270, 271, 323, 272, 324, 104, 150, 151, 207, 153, 105, 208, 154, 107, 152, 155, 209, 273, 274, 118, 172, 109, 210, 108, 156, 157, 211, 212, 275, 276, 325, 326, 327, 331, 328, 408, 330, 409, 482, 508, 522, 540, 336, 541, 280, 333, 410, 411, 278, 484, 62, 334, 335, 281, 337, 338, 412, 485, 486, 509, 527, 543, 487, 277, 515, 532, 529, 510, 528, 544, 530, 531, 533, 511, 534, 536, 535, 512, 537, 513, 514, 329, 523, 542, 524, 525, 526, 483, 213, 279, 332, 214, 106, 158, 29, 30, 68, 69, 112, 113, 70, 114, 71, 116, 170, 171, 115, 161, 167, 221, 162, 216, 163, 217, 218, 164, 219, 220, 283, 165, 166, 168, 169, 72, 31, 73, 117, 119, 74, 32, 75, 33, 76, 77, 120, 173, 34, 41, 14, 35, 36, 78, 40, 20, 52, 92, 53, 93, 141, 56, 99, 142, 143, 133, 182, 83, 97, 95, 94, 121, 81, 127, 178, 227, 82, 228, 288, 128, 179, 229, 289, 290, 175, 55, 98, 230, 291, 341, 414, 415, 488, 489, 416, 417, 490, 491, 516, 517, 231, 232, 233, 292, 342, 418, 343, 421, 340, 413, 492, 518, 286, 287, 419, 420, 129, 125, 177, 224, 284, 235, 176, 285, 339, 225, 226, 130, 145, 199, 256, 314, 234, 399, 469, 502, 470, 503, 472, 471, 400, 313, 257, 258, 259, 315, 401, 473, 402, 260, 200, 316, 403, 474, 504, 505, 520, 475, 477, 476, 404, 405, 478, 506, 521, 317, 261, 146, 84, 201, 202, 180, 131, 181, 132, 144, 54, 96, 11, 21, 57, 100, 37, 38, 79, 122, 123, 174, 223, 222, 124, 126, 80, 39, 42, 18, 9, 43, 85, 134, 183, 236, 237, 293, 294, 184, 238, 135, 137, 140, 191, 195, 196, 197, 254, 311, 360, 306, 198, 255, 185, 138, 312, 376, 377, 186, 239, 248, 247, 295, 344, 374, 188, 245, 244, 308, 422, 441, 296, 345, 346, 12, 22, 367, 423, 356, 241, 305, 303, 375, 246, 307, 347, 424, 354, 297, 348, 358, 349, 425, 426, 350, 351, 352, 353, 298, 355, 427, 190, 428, 357, 429, 359, 299, 361, 362, 430, 431, 432, 433, 363, 434, 435, 493, 436, 437, 438, 364, 365, 300, 366, 368, 369, 301, 370, 371, 249, 309, 250, 372, 439, 373, 440, 302, 240, 304, 242, 442, 189, 494, 378, 379, 443, 495, 444, 496, 519, 539, 538, 545, 445, 446, 380, 447, 381, 448, 382, 449, 450, 383, 384, 451, 385, 452, 386, 387, 388, 453, 454, 455, 456, 389, 390, 457, 458, 497, 498, 459, 391, 392, 460, 499, 500, 467, 461, 462, 393, 394, 463, 464, 501, 395, 465, 466, 396, 397, 468, 398, 139, 192, 193, 251, 252, 310, 253, 194, 136, 187, 243, 44, 86, 87, 45, 88, 46, 89, 16, 48, 47, 17, 49, 90, 50, 91] := by kernel_rfl
theorem vo_c0 : (Rows.veilOthersRow.wf (OpenSpec.ofChange Rows.veilOthersSpec)) = true := by kernel_rfl
theorem vo_c1 : (laidOutB Tryz.prog) = true := by kernel_rfl
theorem vo_c2 : (mapsRowed Tryz.prog) = true := by kernel_rfl
theorem vo_c3 : (Tryz.f4.params.all (Tryz.prog.readableRec ·)) = true := by kernel_rfl
theorem vo_c4 : (namedTie Tryz.prog Rows.veilOthersRow.named Rows.veilOthersSpec.vars) = true := by kernel_rfl
theorem vo_c5 : ((Rows.veilOthersRow.stops == [])) = true := by kernel_rfl
theorem vo_c6 : ((Tryz.prog.stops == [])) = true := by kernel_rfl
theorem vo_c7 : ((Rows.veilOthersRow.knobs == [])) = true := by kernel_rfl
theorem vo_c8 : ((Tryz.prog.stopKnobs == [])) = true := by kernel_rfl
theorem vo_c9 : ((Rows.veilOthersRow.inPlace == Tryz.prog.inPlace 4)) = true := by unfold Program.inPlace; rw [vo_closure]; kernel_rfl
theorem vo_c10 : ((Rows.veilOthersRow.unfollowed == Tryz.prog.unfollowed 4)) = true := by kernel_rfl
theorem vo_c11 : ((Rows.veilOthersRow.recurses == Tryz.prog.recurses 4)) = true := by kernel_rfl
theorem vo_c12 : ((Rows.veilOthersRow.named == Tryz.prog.varsNamed 4)) = true := by rw [Exe.Tryz.varsNamed_of vo_closure]; kernel_rfl
theorem vo_c13 : ((Rows.veilOthersRow.maps == (Tryz.f4.params.toList ++ Rows.veilOthersSpec.plain.varTypes Tryz.prog).any (Tryz.prog.mapsRec ·))) = true := by kernel_rfl
theorem vo_c14 : ((Rows.veilOthersRow.ifaces == (Tryz.f4.params.toList ++ Rows.veilOthersSpec.plain.varTypes Tryz.prog).any (Tryz.prog.ifacesRec ·))) = true := by kernel_rfl
theorem vo_c15 : ((Rows.veilOthersRow.mapsOut == Tryz.prog.mapsAmong Tryz.f4.resultTypes.toList)) = true := by kernel_rfl
theorem vo_c16 : ((Rows.veilOthersRow.loops == (Tryz.f4.params.toList ++ Rows.veilOthersSpec.plain.varTypes Tryz.prog).any (Tryz.prog.loopsFrom ·))) = true := by kernel_rfl
theorem vo_c17 : ((Rows.veilOthersRow.wideKeys == (Tryz.f4.params.toList ++ Rows.veilOthersSpec.plain.varTypes Tryz.prog ++ Tryz.f4.resultTypes.toList).any (Tryz.prog.wideKeysFrom ·))) = true := by kernel_rfl
theorem vo_c18 : (Rows.veilOthersSpec.vars.all (Tryz.prog.varReadable ·)) = true := by kernel_rfl
theorem vo_c19 : (Tryz.f4.resultTypes.all (fun t => Tryz.prog.readableRec t && decide (t < Tryz.prog.types.size))) = true := by kernel_rfl
theorem vo_c20 : ((Rows.veilOthersRow.ifacesOut == Tryz.f4.resultTypes.toList.any (Tryz.prog.ifacesRec ·))) = true := by kernel_rfl
theorem vo_c21 : ((Rows.veilOthersRow.loopsOut == Tryz.f4.resultTypes.toList.any (Tryz.prog.loopsFrom ·))) = true := by kernel_rfl
theorem vo_c22 : ((Rows.veilOthersRow.plainKeys == Tryz.prog.plainKeys)) = true := by kernel_rfl
theorem vo_c23 : (Rows.veilOthersRow.shortTexts.isNone) = true := by kernel_rfl
theorem vo_c24 : (Tryz.prog.stopsHeard) = true := by kernel_rfl
theorem vo_c25 : (Tryz.prog.mayEnter) = true := by kernel_rfl
theorem vo_c26 : ((Rows.veilOthersRow.lifted == Tryz.prog.liftsFinal)) = true := by kernel_rfl
theorem vo_c27 : ((Tryz.prog.make == some Rows.veilOthersRow.make)) = true := by kernel_rfl
theorem vo_c28 : ((Rows.veilOthersRow.kinds == (if Rows.veilOthersRow.domain.isEmpty then [] else Tryz.f4.params.toList.map fun t => match Tryz.prog.underlying t with | some (.int k) => some k | _ => none))) = true := by kernel_rfl
theorem vo_c29 : ((Rows.veilOthersRow.pinned == Rows.veilOthersRow.pinnedBy)) = true := by kernel_rfl
theorem vo_c30 : ((Rows.veilOthersRow.veiled == (Tryz.f4.params.toList ++ Rows.veilOthersSpec.plain.varTypes Tryz.prog ++ Tryz.f4.resultTypes.toList).any (Tryz.prog.veiledRec ·))) = true := by kernel_rfl
theorem vo_c31 : (Rows.veilOthersRow.veiledFits Tryz.prog Tryz.f4.params.toList (Tryz.f4.params.toList ++ Rows.veilOthersSpec.plain.varTypes Tryz.prog ++ Tryz.f4.resultTypes.toList)) = true := by kernel_rfl
theorem vo_closed : joinedFacts Tryz.prog 4 Tryz.f4 Rows.veilOthersSpec Rows.veilOthersRow = true := and_mk (and_mk (and_mk (and_mk (and_mk (and_mk (and_mk (and_mk (and_mk (and_mk (and_mk (and_mk (and_mk (and_mk (and_mk (and_mk (and_mk (and_mk (and_mk (and_mk (and_mk (and_mk (and_mk (and_mk (and_mk (and_mk (and_mk (and_mk (and_mk (and_mk (and_mk (vo_c0) vo_c1) vo_c2) vo_c3) vo_c4) vo_c5) vo_c6) vo_c7) vo_c8) vo_c9) vo_c10) vo_c11) vo_c12) vo_c13) vo_c14) vo_c15) vo_c16) vo_c17) vo_c18) vo_c19) vo_c20) vo_c21) vo_c22) vo_c23) vo_c24) vo_c25) vo_c26) vo_c27) vo_c28) vo_c29) vo_c30) vo_c31
end Go.Proofs.YtdlpbhjihdfoaaaGreatDoor
