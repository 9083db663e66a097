/- The closed facts of the row of SnareNames, one by one. -/
import Derived.Test.YtmefakjonbblcaaGreatDoorRows
import Derived.ProofKit
import Derived.Stop.Joined
import Derived.Test.YtmefakjonbblcaaGreatDoorExeGn
set_option maxRecDepth 100000
namespace Go.Proofs.YtmefakjonbblcaaGreatDoor
open Go Go.Proofs
theorem and_mk {a b : Bool} (h : a = true) (k : b = true) : (a && b) = true := by rw [h, k]; rfl
theorem sn_closure : Tryz.prog.closure 4 = [4, 8, 10, 11, 15, 31, 32, 33, 34, 68, 69, 92, 120, 50, 121, 36, 72, 73, 127, 189, 190, 253, 318, 74, 67, 119, 65, 35, 70, 71, 122, 177, 241, 178, 243, 179, 244, 298, 390, 299, 300, 301, 391, 468, 392, 469, 502, 503, 504, 525, 302, 242, 303, 304, 393, 305, 394, 306, 307, 395, 308, 396, 123, 180, 181, 245, 183, 124, 246, 184, 126, 182, 185, 247, 309, 310, 133, 200, 107, 248, 106, 186, 187, 249, 250, 311, 312, 397, 398, 399, 403, 400, 470, 402, 471, 505, 526, 542, 561, 408, 562, 316, 405, 472, 473, 314, 507, 58, 406, 407, 317, 409, 410, 474, 508, 509, 527, 547, 564, 510, 313, 533, 552, 549, 528, 548, 565, 550, 551, 553, 529, 554, 556, 555, 530, 557, 531, 532, 401, 543, 563, 544, 545, 546, 506, 251, 315, 404, 252, 125, 188, 37, 38, 75, 76, 128, 129, 77, 130, 78, 64, 116, 117, 131, 191, 197, 118, 192, 254, 193, 173, 174, 194, 255, 256, 319, 195, 196, 198, 199, 79, 39, 80, 132, 134, 81, 40, 82, 41, 83, 84, 135, 201, 42, 16, 17, 43, 44, 85, 48, 51, 93, 150, 94, 151, 215, 203, 96, 216, 217, 97, 155, 91, 143, 153, 152, 137, 89, 144, 210, 263, 90, 264, 324, 145, 211, 265, 325, 326, 207, 202, 205, 266, 327, 413, 476, 477, 511, 512, 478, 479, 513, 514, 534, 535, 267, 268, 269, 328, 414, 480, 415, 483, 412, 475, 515, 536, 322, 323, 481, 482, 146, 141, 209, 260, 320, 272, 208, 321, 411, 261, 262, 147, 212, 270, 278, 334, 271, 419, 489, 522, 490, 523, 492, 491, 420, 333, 279, 329, 330, 416, 484, 516, 485, 331, 273, 417, 486, 517, 537, 538, 558, 518, 520, 519, 487, 488, 521, 539, 559, 418, 332, 219, 53, 274, 275, 213, 148, 214, 149, 218, 95, 154, 86, 136, 204, 257, 45, 46, 87, 138, 139, 206, 259, 258, 140, 142, 88, 47, 18, 49, 52, 19, 54, 98, 156, 220, 221, 276, 277, 157, 222, 99, 101, 105, 164, 168, 169, 170, 238, 296, 351, 291, 171, 239, 158, 102, 297, 367, 368, 159, 223, 232, 231, 280, 335, 365, 161, 229, 228, 293, 421, 440, 281, 336, 337, 56, 104, 358, 422, 347, 225, 290, 288, 366, 230, 292, 338, 423, 345, 282, 339, 349, 340, 424, 425, 341, 342, 343, 344, 283, 346, 426, 163, 427, 348, 428, 350, 284, 352, 353, 429, 430, 431, 432, 354, 433, 434, 493, 435, 436, 437, 355, 356, 285, 357, 359, 360, 286, 361, 362, 233, 294, 234, 363, 438, 364, 439, 287, 224, 289, 226, 441, 162, 494, 369, 370, 442, 495, 443, 496, 524, 541, 540, 560, 444, 445, 371, 446, 372, 447, 373, 448, 449, 374, 375, 450, 376, 451, 377, 378, 379, 452, 453, 454, 455, 380, 381, 456, 457, 497, 498, 458, 382, 383, 459, 499, 500, 466, 460, 461, 384, 385, 462, 463, 501, 386, 464, 465, 387, 388, 467, 389, 103, 165, 166, 235, 236, 295, 237, 167, 100, 160, 227, 20, 55, 57, 21, 59, 22, 60, 14, 27, 28, 63, 108, 109, 172, 110, 111, 175, 176, 240, 112, 113, 114, 115, 29, 66, 30, 9] := by kernel_rfl
theorem sn_c0 : (Rows.snareNamesRow.wf (OpenSpec.ofChange Rows.snareNamesSpec)) = true := by kernel_rfl
theorem sn_c1 : (laidOutB Tryz.prog) = true := by kernel_rfl
theorem sn_c2 : (mapsRowed Tryz.prog) = true := by kernel_rfl
theorem sn_c3 : (Tryz.f4.params.all (Tryz.prog.readableRec ·)) = true := by kernel_rfl
theorem sn_c4 : (namedTie Tryz.prog Rows.snareNamesRow.named Rows.snareNamesSpec.vars) = true := by kernel_rfl
theorem sn_c5 : ((Rows.snareNamesRow.stops == [])) = true := by kernel_rfl
theorem sn_c6 : ((Tryz.prog.stops == [])) = true := by kernel_rfl
theorem sn_c7 : ((Rows.snareNamesRow.knobs == [])) = true := by kernel_rfl
theorem sn_c8 : ((Tryz.prog.stopKnobs == [])) = true := by kernel_rfl
theorem sn_c9 : ((Rows.snareNamesRow.inPlace == Tryz.prog.inPlace 4)) = true := by unfold Program.inPlace; rw [sn_closure]; kernel_rfl
theorem sn_c10 : ((Rows.snareNamesRow.unfollowed == Tryz.prog.unfollowed 4)) = true := by kernel_rfl
theorem sn_c11 : ((Rows.snareNamesRow.recurses == Tryz.prog.recurses 4)) = true := by kernel_rfl
theorem sn_c12 : ((Rows.snareNamesRow.named == Tryz.prog.varsNamed 4)) = true := by rw [Exe.Tryz.varsNamed_of sn_closure]; kernel_rfl
theorem sn_c13 : ((Rows.snareNamesRow.maps == (Tryz.f4.params.toList ++ Rows.snareNamesSpec.plain.varTypes Tryz.prog).any (Tryz.prog.mapsRec ·))) = true := by kernel_rfl
theorem sn_c14 : ((Rows.snareNamesRow.ifaces == (Tryz.f4.params.toList ++ Rows.snareNamesSpec.plain.varTypes Tryz.prog).any (Tryz.prog.ifacesRec ·))) = true := by kernel_rfl
theorem sn_c15 : ((Rows.snareNamesRow.mapsOut == Tryz.prog.mapsAmong Tryz.f4.resultTypes.toList)) = true := by kernel_rfl
theorem sn_c16 : ((Rows.snareNamesRow.loops == (Tryz.f4.params.toList ++ Rows.snareNamesSpec.plain.varTypes Tryz.prog).any (Tryz.prog.loopsFrom ·))) = true := by kernel_rfl
theorem sn_c17 : ((Rows.snareNamesRow.wideKeys == (Tryz.f4.params.toList ++ Rows.snareNamesSpec.plain.varTypes Tryz.prog ++ Tryz.f4.resultTypes.toList).any (Tryz.prog.wideKeysFrom ·))) = true := by kernel_rfl
theorem sn_c18 : (Rows.snareNamesSpec.vars.all (Tryz.prog.varReadable ·)) = true := by kernel_rfl
theorem sn_c19 : (Tryz.f4.resultTypes.all (fun t => Tryz.prog.readableRec t && decide (t < Tryz.prog.types.size))) = true := by kernel_rfl
theorem sn_c20 : ((Rows.snareNamesRow.ifacesOut == Tryz.f4.resultTypes.toList.any (Tryz.prog.ifacesRec ·))) = true := by kernel_rfl
theorem sn_c21 : ((Rows.snareNamesRow.loopsOut == Tryz.f4.resultTypes.toList.any (Tryz.prog.loopsFrom ·))) = true := by kernel_rfl
theorem sn_c22 : ((Rows.snareNamesRow.plainKeys == Tryz.prog.plainKeys)) = true := by kernel_rfl
theorem sn_c23 : (Rows.snareNamesRow.shortTexts.isNone) = true := by kernel_rfl
theorem sn_c24 : (Tryz.prog.stopsHeard) = true := by kernel_rfl
theorem sn_c25 : (Tryz.prog.mayEnter) = true := by kernel_rfl
theorem sn_c26 : ((Rows.snareNamesRow.lifted == Tryz.prog.liftsFinal)) = true := by kernel_rfl
theorem sn_c27 : ((Tryz.prog.make == some Rows.snareNamesRow.make)) = true := by kernel_rfl
theorem sn_c28 : ((Rows.snareNamesRow.kinds == (if Rows.snareNamesRow.domain.isEmpty then [] else Tryz.f4.params.toList.map fun t => match Tryz.prog.underlying t with | some (.int k) => some k | _ => none))) = true := by kernel_rfl
theorem sn_c29 : ((Rows.snareNamesRow.pinned == Rows.snareNamesRow.pinnedBy)) = true := by kernel_rfl
theorem sn_c30 : ((Rows.snareNamesRow.veiled == (Tryz.f4.params.toList ++ Rows.snareNamesSpec.plain.varTypes Tryz.prog ++ Tryz.f4.resultTypes.toList).any (Tryz.prog.veiledRec ·))) = true := by kernel_rfl
theorem sn_c31 : (Rows.snareNamesRow.veiledFits Tryz.prog Tryz.f4.params.toList (Tryz.f4.params.toList ++ Rows.snareNamesSpec.plain.varTypes Tryz.prog ++ Tryz.f4.resultTypes.toList)) = true := by kernel_rfl
theorem sn_closed : joinedFacts Tryz.prog 4 Tryz.f4 Rows.snareNamesSpec Rows.snareNamesRow = true := and_mk (and_mk (and_mk (and_mk (and_mk (and_mk (and_mk (and_mk (and_mk (and_mk (and_mk (and_mk (and_mk (and_mk (and_mk (and_mk (and_mk (and_mk (and_mk (and_mk (and_mk (and_mk (and_mk (and_mk (and_mk (and_mk (and_mk (and_mk (and_mk (and_mk (and_mk (sn_c0) sn_c1) sn_c2) sn_c3) sn_c4) sn_c5) sn_c6) sn_c7) sn_c8) sn_c9) sn_c10) sn_c11) sn_c12) sn_c13) sn_c14) sn_c15) sn_c16) sn_c17) sn_c18) sn_c19) sn_c20) sn_c21) sn_c22) sn_c23) sn_c24) sn_c25) sn_c26) sn_c27) sn_c28) sn_c29) sn_c30) sn_c31
end Go.Proofs.YtmefakjonbblcaaGreatDoor
