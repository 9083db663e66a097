/- The closed facts of the row of RuleLoops, one by one. -/
import Derived.Test.YtkjjeanapehjgaaGreatDoorRows
import Derived.ProofKit
import Derived.Stop.Joined
import Derived.Test.YtkjjeanapehjgaaGreatDoorExeGn
set_option maxRecDepth 100000
namespace Go.Proofs.YtkjjeanapehjgaaGreatDoor
open Go Go.Proofs
theorem and_mk {a b : Bool} (h : a = true) (k : b = true) : (a && b) = true := by rw [h, k]; rfl
theorem rl_closure : Tryz.prog.closure 5 = [5, 11, 12, 23, 18, 34, 35, 36, 37, 87, 88, 80, 190, 30, 191, 39, 91, 92, 197, 277, 278, 330, 392, 93, 95, 198, 94, 38, 89, 90, 192, 265, 318, 266, 320, 267, 321, 372, 433, 373, 374, 375, 434, 478, 435, 479, 498, 499, 500, 515, 376, 319, 377, 378, 436, 379, 437, 380, 381, 438, 382, 439, 193, 268, 269, 322, 271, 194, 323, 272, 196, 270, 273, 324, 383, 384, 76, 178, 112, 325, 111, 274, 275, 326, 327, 385, 386, 440, 441, 442, 446, 443, 480, 445, 481, 501, 516, 527, 543, 451, 544, 390, 448, 482, 483, 388, 503, 52, 449, 450, 391, 452, 453, 484, 504, 505, 517, 532, 546, 506, 387, 523, 537, 534, 518, 533, 547, 535, 536, 538, 519, 539, 541, 540, 520, 542, 521, 522, 444, 528, 545, 529, 530, 531, 502, 328, 389, 447, 329, 195, 276, 40, 41, 96, 97, 199, 200, 98, 201, 99, 203, 288, 289, 202, 279, 285, 336, 280, 331, 281, 332, 333, 282, 334, 335, 393, 283, 284, 286, 287, 100, 42, 101, 204, 205, 102, 43, 103, 44, 104, 105, 206, 290, 45, 19, 46, 47, 106, 51, 31, 81, 181, 82, 182, 260, 85, 188, 261, 262, 255, 310, 110, 186, 184, 183, 207, 67, 155, 249, 117, 109, 119, 218, 156, 250, 304, 346, 228, 291, 84, 187, 305, 347, 401, 461, 462, 492, 493, 463, 464, 494, 495, 510, 511, 306, 307, 308, 348, 402, 465, 403, 468, 455, 485, 496, 512, 396, 397, 466, 467, 157, 211, 293, 337, 394, 309, 292, 395, 454, 338, 339, 158, 227, 301, 55, 116, 215, 214, 294, 340, 295, 341, 297, 296, 216, 115, 58, 342, 343, 398, 456, 486, 457, 344, 316, 399, 458, 487, 507, 508, 524, 488, 490, 489, 459, 460, 491, 509, 525, 400, 345, 264, 168, 317, 300, 243, 159, 251, 160, 263, 83, 185, 16, 32, 86, 189, 48, 49, 107, 208, 209, 219, 299, 298, 210, 212, 108, 50, 17, 33, 25, 24, 70, 53, 113, 114, 54, 29, 213, 164, 253, 71, 170, 72, 165, 166, 167, 14, 169, 256, 311, 139, 120, 171, 257, 312, 172, 313, 349, 350, 404, 21, 56, 57, 59, 118, 154, 129, 130, 68, 161, 217, 248, 60, 121, 122, 146, 220, 135, 125, 222, 225, 229, 150, 226, 123, 221, 133, 61, 124, 137, 126, 223, 224, 127, 128, 131, 132, 62, 134, 230, 231, 232, 136, 233, 138, 63, 140, 141, 234, 235, 236, 237, 142, 238, 239, 302, 240, 241, 242, 143, 144, 64, 145, 147, 148, 65, 149, 151, 244, 303, 245, 152, 246, 153, 247, 66, 469, 414, 315, 405, 314, 470, 351, 352, 406, 471, 407, 472, 497, 514, 513, 526, 408, 409, 353, 410, 354, 411, 355, 412, 413, 356, 357, 415, 358, 416, 359, 360, 361, 417, 418, 419, 420, 362, 363, 421, 422, 473, 474, 423, 364, 365, 424, 475, 476, 431, 425, 426, 366, 367, 427, 428, 477, 368, 429, 430, 369, 370, 432, 371, 173, 258, 69, 27, 162, 252, 163, 254, 13, 26, 28, 73, 174, 175, 259, 176, 177, 74, 75, 77, 179, 180, 78, 79] := by kernel_rfl
theorem rl_c0 : (Rows.ruleLoopsRow.wf (OpenSpec.ofChange Rows.ruleLoopsSpec)) = true := by kernel_rfl
theorem rl_c1 : (laidOutB Tryz.prog) = true := by kernel_rfl
theorem rl_c2 : (mapsRowed Tryz.prog) = true := by kernel_rfl
theorem rl_c3 : (Tryz.f5.params.all (Tryz.prog.readableRec ·)) = true := by kernel_rfl
theorem rl_c4 : (namedTie Tryz.prog Rows.ruleLoopsRow.named Rows.ruleLoopsSpec.vars) = true := by kernel_rfl
theorem rl_c5 : ((Rows.ruleLoopsRow.stops == [])) = true := by kernel_rfl
theorem rl_c6 : ((Tryz.prog.stops == [])) = true := by kernel_rfl
theorem rl_c7 : ((Rows.ruleLoopsRow.knobs == [])) = true := by kernel_rfl
theorem rl_c8 : ((Tryz.prog.stopKnobs == [])) = true := by kernel_rfl
theorem rl_c9 : ((Rows.ruleLoopsRow.inPlace == Tryz.prog.inPlace 5)) = true := by unfold Program.inPlace; rw [rl_closure]; kernel_rfl
theorem rl_c10 : ((Rows.ruleLoopsRow.unfollowed == Tryz.prog.unfollowed 5)) = true := by kernel_rfl
theorem rl_c11 : ((Rows.ruleLoopsRow.recurses == Tryz.prog.recurses 5)) = true := by kernel_rfl
theorem rl_c12 : ((Rows.ruleLoopsRow.named == Tryz.prog.varsNamed 5)) = true := by rw [Exe.Tryz.varsNamed_of rl_closure]; kernel_rfl
theorem rl_c13 : ((Rows.ruleLoopsRow.maps == (Tryz.f5.params.toList ++ Rows.ruleLoopsSpec.plain.varTypes Tryz.prog).any (Tryz.prog.mapsRec ·))) = true := by kernel_rfl
theorem rl_c14 : ((Rows.ruleLoopsRow.ifaces == (Tryz.f5.params.toList ++ Rows.ruleLoopsSpec.plain.varTypes Tryz.prog).any (Tryz.prog.ifacesRec ·))) = true := by kernel_rfl
theorem rl_c15 : ((Rows.ruleLoopsRow.mapsOut == Tryz.prog.mapsAmong Tryz.f5.resultTypes.toList)) = true := by kernel_rfl
theorem rl_c16 : ((Rows.ruleLoopsRow.loops == (Tryz.f5.params.toList ++ Rows.ruleLoopsSpec.plain.varTypes Tryz.prog).any (Tryz.prog.loopsFrom ·))) = true := by kernel_rfl
theorem rl_c17 : ((Rows.ruleLoopsRow.wideKeys == (Tryz.f5.params.toList ++ Rows.ruleLoopsSpec.plain.varTypes Tryz.prog ++ Tryz.f5.resultTypes.toList).any (Tryz.prog.wideKeysFrom ·))) = true := by kernel_rfl
theorem rl_c18 : (Rows.ruleLoopsSpec.vars.all (Tryz.prog.varReadable ·)) = true := by kernel_rfl
theorem rl_c19 : (Tryz.f5.resultTypes.all (fun t => Tryz.prog.readableRec t && decide (t < Tryz.prog.types.size))) = true := by kernel_rfl
theorem rl_c20 : ((Rows.ruleLoopsRow.ifacesOut == Tryz.f5.resultTypes.toList.any (Tryz.prog.ifacesRec ·))) = true := by kernel_rfl
theorem rl_c21 : ((Rows.ruleLoopsRow.loopsOut == Tryz.f5.resultTypes.toList.any (Tryz.prog.loopsFrom ·))) = true := by kernel_rfl
theorem rl_c22 : ((Rows.ruleLoopsRow.plainKeys == Tryz.prog.plainKeys)) = true := by kernel_rfl
theorem rl_c23 : (Rows.ruleLoopsRow.shortTexts.isNone) = true := by kernel_rfl
theorem rl_c24 : (Tryz.prog.stopsHeard) = true := by kernel_rfl
theorem rl_c25 : (Tryz.prog.mayEnter) = true := by kernel_rfl
theorem rl_c26 : ((Rows.ruleLoopsRow.lifted == Tryz.prog.liftsFinal)) = true := by kernel_rfl
theorem rl_c27 : ((Tryz.prog.make == some Rows.ruleLoopsRow.make)) = true := by kernel_rfl
theorem rl_c28 : ((Rows.ruleLoopsRow.kinds == (if Rows.ruleLoopsRow.domain.isEmpty then [] else Tryz.f5.params.toList.map fun t => match Tryz.prog.underlying t with | some (.int k) => some k | _ => none))) = true := by kernel_rfl
theorem rl_c29 : ((Rows.ruleLoopsRow.pinned == Rows.ruleLoopsRow.pinnedBy)) = true := by kernel_rfl
theorem rl_c30 : ((Rows.ruleLoopsRow.veiled == (Tryz.f5.params.toList ++ Rows.ruleLoopsSpec.plain.varTypes Tryz.prog ++ Tryz.f5.resultTypes.toList).any (Tryz.prog.veiledRec ·))) = true := by kernel_rfl
theorem rl_c31 : (Rows.ruleLoopsRow.veiledFits Tryz.prog Tryz.f5.params.toList (Tryz.f5.params.toList ++ Rows.ruleLoopsSpec.plain.varTypes Tryz.prog ++ Tryz.f5.resultTypes.toList)) = true := by kernel_rfl
theorem rl_closed : joinedFacts Tryz.prog 5 Tryz.f5 Rows.ruleLoopsSpec Rows.ruleLoopsRow = true := and_mk (and_mk (and_mk (and_mk (and_mk (and_mk (and_mk (and_mk (and_mk (and_mk (and_mk (and_mk (and_mk (and_mk (and_mk (and_mk (and_mk (and_mk (and_mk (and_mk (and_mk (and_mk (and_mk (and_mk (and_mk (and_mk (and_mk (and_mk (and_mk (and_mk (and_mk (rl_c0) rl_c1) rl_c2) rl_c3) rl_c4) rl_c5) rl_c6) rl_c7) rl_c8) rl_c9) rl_c10) rl_c11) rl_c12) rl_c13) rl_c14) rl_c15) rl_c16) rl_c17) rl_c18) rl_c19) rl_c20) rl_c21) rl_c22) rl_c23) rl_c24) rl_c25) rl_c26) rl_c27) rl_c28) rl_c29) rl_c30) rl_c31
end Go.Proofs.YtkjjeanapehjgaaGreatDoor
