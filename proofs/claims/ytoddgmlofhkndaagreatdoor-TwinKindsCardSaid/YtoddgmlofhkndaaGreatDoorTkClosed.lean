/- The closed facts of the row of TwinKinds, one by one. -/
import Derived.Test.YtoddgmlofhkndaaGreatDoorRows
import Derived.ProofKit
import Derived.Stop.Joined
import Derived.Test.YtoddgmlofhkndaaGreatDoorExeGn
set_option linter.unusedVariables false
set_option linter.unusedSimpArgs false
set_option maxRecDepth 100000
namespace Go.Proofs.YtoddgmlofhkndaaGreatDoor
open Go Go.Proofs
theorem and_mk {a b : Bool} (h : a = true) (k : b = true) : (a && b) = true := by rw [h, k]; rfl
theorem tk_closure : Tryz.prog.closure 3 = [3, 4, 5, 6, 9, 19, 20, 21, 22, 49, 50, 75, 95, 38, 96, 24, 53, 54, 102, 163, 164, 225, 293, 55, 57, 103, 56, 23, 51, 52, 97, 151, 213, 152, 215, 153, 216, 273, 364, 274, 275, 276, 365, 442, 366, 443, 476, 477, 478, 499, 277, 214, 278, 279, 367, 280, 368, 281, 282, 369, 283, 370, 98, 154, 155, 217, 157, 99, 218, 158, 101, 156, 159, 219, 284, 285, 93, 150, 90, 220, 89, 160, 161, 221, 222, 286, 287, 371, 372, 373, 377, 374, 444, 376, 445, 479, 500, 516, 535, 382, 536, 291, 379, 446, 447, 289, 481, 45, 380, 381, 292, 383, 384, 448, 482, 483, 501, 521, 538, 484, 288, 507, 526, 523, 502, 522, 539, 524, 525, 527, 503, 528, 530, 529, 504, 531, 505, 506, 375, 517, 537, 518, 519, 520, 480, 223, 290, 378, 224, 100, 162, 25, 26, 58, 59, 104, 105, 60, 106, 61, 108, 174, 175, 107, 165, 171, 231, 166, 226, 167, 227, 228, 168, 229, 230, 294, 169, 170, 172, 173, 62, 27, 63, 109, 110, 64, 28, 65, 29, 66, 67, 111, 176, 30, 10, 11, 31, 32, 68, 36, 39, 76, 126, 77, 127, 188, 177, 79, 189, 190, 80, 131, 74, 119, 129, 128, 113, 72, 120, 183, 238, 73, 239, 299, 121, 184, 240, 300, 301, 92, 149, 179, 241, 302, 387, 450, 451, 485, 486, 452, 453, 487, 488, 508, 509, 242, 243, 244, 303, 388, 454, 389, 457, 386, 449, 489, 510, 297, 298, 455, 456, 122, 117, 182, 235, 295, 247, 181, 296, 385, 236, 237, 123, 185, 245, 253, 309, 246, 393, 463, 496, 464, 497, 466, 465, 394, 308, 254, 304, 305, 390, 458, 490, 459, 306, 248, 391, 460, 491, 511, 512, 532, 492, 494, 493, 461, 462, 495, 513, 533, 392, 307, 192, 40, 249, 250, 186, 124, 187, 125, 191, 78, 130, 69, 112, 178, 232, 33, 34, 70, 114, 115, 180, 234, 233, 116, 118, 71, 35, 12, 37, 8, 13, 41, 81, 132, 193, 194, 251, 252, 133, 195, 82, 84, 88, 140, 144, 145, 146, 211, 271, 325, 266, 147, 212, 134, 85, 272, 341, 342, 135, 196, 205, 204, 255, 310, 339, 137, 202, 201, 268, 395, 414, 256, 148, 311, 43, 87, 332, 396, 321, 198, 265, 263, 340, 203, 267, 312, 397, 319, 257, 313, 323, 314, 398, 399, 315, 316, 317, 318, 258, 320, 400, 139, 401, 322, 402, 324, 259, 326, 327, 403, 404, 405, 406, 328, 407, 408, 467, 409, 410, 411, 329, 330, 260, 331, 333, 334, 261, 335, 336, 206, 269, 207, 337, 412, 338, 413, 262, 197, 264, 199, 415, 138, 468, 343, 344, 416, 469, 417, 470, 498, 515, 514, 534, 418, 419, 345, 420, 346, 421, 347, 422, 423, 348, 349, 424, 350, 425, 351, 352, 353, 426, 427, 428, 429, 354, 355, 430, 431, 471, 472, 432, 356, 357, 433, 473, 474, 440, 434, 435, 358, 359, 436, 437, 475, 360, 438, 439, 361, 362, 441, 363, 86, 141, 142, 208, 209, 270, 210, 143, 83, 136, 200, 14, 42, 44, 15, 46, 16, 47, 7, 17, 18, 48, 91, 94] := by kernel_rfl
theorem tk_c0 : (Rows.twinKindsRow.wf (OpenSpec.ofChange Rows.twinKindsSpec)) = true := by kernel_rfl
theorem tk_c1 : (laidOutB Tryz.prog) = true := by kernel_rfl
theorem tk_c2 : (mapsRowed Tryz.prog) = true := by kernel_rfl
theorem tk_c3 : (Tryz.f3.params.all (Tryz.prog.readableRec ·)) = true := by kernel_rfl
theorem tk_c4 : (namedTie Tryz.prog Rows.twinKindsRow.named Rows.twinKindsSpec.vars) = true := by kernel_rfl
theorem tk_c5 : ((Rows.twinKindsRow.stops == [])) = true := by kernel_rfl
theorem tk_c6 : ((Tryz.prog.stops == [])) = true := by kernel_rfl
theorem tk_c7 : ((Rows.twinKindsRow.knobs == [])) = true := by kernel_rfl
theorem tk_c8 : ((Tryz.prog.stopKnobs == [])) = true := by kernel_rfl
theorem tk_c9 : ((Rows.twinKindsRow.inPlace == Tryz.prog.inPlace 3)) = true := by unfold Program.inPlace; rw [tk_closure]; kernel_rfl
theorem tk_c10 : ((Rows.twinKindsRow.unfollowed == Tryz.prog.unfollowed 3)) = true := by kernel_rfl
theorem tk_c11 : ((Rows.twinKindsRow.recurses == Tryz.prog.recurses 3)) = true := by kernel_rfl
theorem tk_c12 : ((Rows.twinKindsRow.named == Tryz.prog.varsNamed 3)) = true := by rw [Exe.Tryz.varsNamed_of tk_closure]; kernel_rfl
theorem tk_c13 : ((Rows.twinKindsRow.maps == (Tryz.f3.params.toList ++ Rows.twinKindsSpec.plain.varTypes Tryz.prog).any (Tryz.prog.mapsRec ·))) = true := by kernel_rfl
theorem tk_c14 : ((Rows.twinKindsRow.ifaces == (Tryz.f3.params.toList ++ Rows.twinKindsSpec.plain.varTypes Tryz.prog).any (Tryz.prog.ifacesRec ·))) = true := by kernel_rfl
theorem tk_c15 : ((Rows.twinKindsRow.mapsOut == Tryz.prog.mapsAmong Tryz.f3.resultTypes.toList)) = true := by kernel_rfl
theorem tk_c16 : ((Rows.twinKindsRow.loops == (Tryz.f3.params.toList ++ Rows.twinKindsSpec.plain.varTypes Tryz.prog).any (Tryz.prog.loopsFrom ·))) = true := by kernel_rfl
theorem tk_c17 : ((Rows.twinKindsRow.wideKeys == (Tryz.f3.params.toList ++ Rows.twinKindsSpec.plain.varTypes Tryz.prog ++ Tryz.f3.resultTypes.toList).any (Tryz.prog.wideKeysFrom ·))) = true := by kernel_rfl
theorem tk_c18 : (Rows.twinKindsSpec.vars.all (Tryz.prog.varReadable ·)) = true := by kernel_rfl
theorem tk_c19 : (Tryz.f3.resultTypes.all (fun t => Tryz.prog.readableRec t && decide (t < Tryz.prog.types.size))) = true := by kernel_rfl
theorem tk_c20 : ((Rows.twinKindsRow.ifacesOut == Tryz.f3.resultTypes.toList.any (Tryz.prog.ifacesRec ·))) = true := by kernel_rfl
theorem tk_c21 : ((Rows.twinKindsRow.loopsOut == Tryz.f3.resultTypes.toList.any (Tryz.prog.loopsFrom ·))) = true := by kernel_rfl
theorem tk_c22 : ((Rows.twinKindsRow.plainKeys == Tryz.prog.plainKeys)) = true := by kernel_rfl
theorem tk_c23 : (Rows.twinKindsRow.shortTexts.isNone) = true := by kernel_rfl
theorem tk_c24 : (Tryz.prog.stopsHeard) = true := by kernel_rfl
theorem tk_c25 : (Tryz.prog.mayEnter) = true := by kernel_rfl
theorem tk_c26 : ((Rows.twinKindsRow.lifted == Tryz.prog.liftsFinal)) = true := by kernel_rfl
theorem tk_c27 : ((Tryz.prog.make == some Rows.twinKindsRow.make)) = true := by kernel_rfl
theorem tk_c28 : ((Rows.twinKindsRow.kinds == (if Rows.twinKindsRow.domain.isEmpty then [] else Tryz.f3.params.toList.map fun t => match Tryz.prog.underlying t with | some (.int k) => some k | _ => none))) = true := by kernel_rfl
theorem tk_c29 : ((Rows.twinKindsRow.pinned == Rows.twinKindsRow.pinnedBy)) = true := by kernel_rfl
theorem tk_c30 : ((Rows.twinKindsRow.veiled == (Tryz.f3.params.toList ++ Rows.twinKindsSpec.plain.varTypes Tryz.prog ++ Tryz.f3.resultTypes.toList).any (Tryz.prog.veiledRec ·))) = true := by kernel_rfl
theorem tk_c31 : (Rows.twinKindsRow.veiledFits Tryz.prog Tryz.f3.params.toList (Tryz.f3.params.toList ++ Rows.twinKindsSpec.plain.varTypes Tryz.prog ++ Tryz.f3.resultTypes.toList)) = true := by kernel_rfl
theorem tk_closed : joinedFacts Tryz.prog 3 Tryz.f3 Rows.twinKindsSpec Rows.twinKindsRow = true := and_mk (and_mk (and_mk (and_mk (and_mk (and_mk (and_mk (and_mk (and_mk (and_mk (and_mk (and_mk (and_mk (and_mk (and_mk (and_mk (and_mk (and_mk (and_mk (and_mk (and_mk (and_mk (and_mk (and_mk (and_mk (and_mk (and_mk (and_mk (and_mk (and_mk (and_mk (tk_c0) tk_c1) tk_c2) tk_c3) tk_c4) tk_c5) tk_c6) tk_c7) tk_c8) tk_c9) tk_c10) tk_c11) tk_c12) tk_c13) tk_c14) tk_c15) tk_c16) tk_c17) tk_c18) tk_c19) tk_c20) tk_c21) tk_c22) tk_c23) tk_c24) tk_c25) tk_c26) tk_c27) tk_c28) tk_c29) tk_c30) tk_c31
end Go.Proofs.YtoddgmlofhkndaaGreatDoor
