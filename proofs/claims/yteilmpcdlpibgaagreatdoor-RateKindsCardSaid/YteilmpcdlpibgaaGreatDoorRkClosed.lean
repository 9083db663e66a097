/- The closed facts of the row of RateKinds, one by one. -/
import Derived.Test.YteilmpcdlpibgaaGreatDoorRows
import Derived.ProofKit
import Derived.Stop.Joined
import Derived.Test.YteilmpcdlpibgaaGreatDoorExeGn
set_option linter.unusedVariables false
set_option linter.unusedSimpArgs false
set_option maxRecDepth 100000
namespace Go.Proofs.YteilmpcdlpibgaaGreatDoor
open Go Go.Proofs
theorem and_mk {a b : Bool} (h : a = true) (k : b = true) : (a && b) = true := by rw [h, k]; rfl
theorem rk_closure : Tryz.prog.closure 3 = [3, 4, 7, 10, 31, 32, 33, 34, 110, 111, 139, 192, 129, 193, 36, 114, 115, 199, 257, 258, 307, 347, 116, 118, 200, 117, 35, 112, 113, 194, 245, 295, 246, 297, 247, 298, 327, 364, 328, 329, 330, 365, 397, 366, 398, 410, 411, 412, 421, 331, 296, 332, 333, 367, 334, 368, 335, 336, 369, 337, 370, 195, 248, 249, 299, 251, 196, 300, 252, 198, 250, 253, 301, 338, 339, 188, 242, 50, 302, 49, 254, 255, 303, 304, 340, 341, 371, 372, 373, 377, 374, 399, 376, 400, 413, 422, 430, 446, 382, 447, 345, 379, 401, 402, 343, 415, 12, 380, 381, 346, 383, 384, 403, 416, 417, 423, 435, 449, 418, 342, 429, 440, 437, 424, 436, 450, 438, 439, 441, 425, 442, 444, 443, 426, 445, 427, 428, 375, 431, 448, 432, 433, 434, 414, 305, 344, 378, 306, 197, 256, 37, 38, 119, 120, 201, 202, 121, 203, 122, 205, 268, 269, 204, 259, 265, 313, 260, 308, 261, 309, 310, 262, 311, 312, 348, 263, 264, 266, 267, 123, 39, 124, 206, 207, 125, 40, 126, 41, 127, 128, 208, 270, 42, 11, 43, 44, 96, 48, 130, 58, 141, 209, 271, 314, 275, 144, 288, 289, 229, 290, 134, 215, 273, 272, 180, 27, 97, 179, 56, 103, 59, 142, 98, 181, 232, 291, 156, 223, 85, 172, 233, 292, 324, 356, 357, 392, 393, 358, 359, 394, 395, 407, 408, 234, 235, 236, 293, 325, 360, 326, 363, 355, 391, 396, 409, 322, 323, 361, 362, 99, 182, 228, 285, 320, 237, 224, 321, 354, 286, 287, 100, 155, 226, 15, 55, 137, 136, 216, 277, 217, 278, 219, 218, 138, 54, 18, 279, 280, 317, 349, 385, 350, 281, 283, 318, 351, 386, 404, 405, 419, 387, 389, 388, 352, 353, 390, 406, 420, 319, 282, 227, 161, 284, 225, 173, 101, 183, 102, 315, 210, 274, 131, 211, 276, 316, 45, 46, 132, 212, 213, 145, 221, 220, 148, 214, 133, 47, 13, 51, 52, 14, 53, 135, 8, 16, 17, 19, 57, 95, 69, 70, 28, 104, 140, 178, 20, 60, 143, 61, 62, 146, 222, 87, 79, 147, 75, 65, 150, 153, 157, 91, 154, 63, 149, 73, 21, 64, 77, 66, 151, 152, 67, 68, 71, 72, 22, 74, 158, 159, 160, 76, 162, 78, 23, 80, 81, 163, 164, 165, 166, 82, 167, 168, 230, 169, 170, 171, 83, 84, 24, 86, 88, 89, 25, 90, 92, 174, 231, 175, 93, 176, 94, 177, 26, 9, 29, 105, 106, 184, 107, 30, 108, 109, 185, 238, 239, 294, 240, 241, 186, 187, 189, 243, 244, 190, 191, 5, 6] := by kernel_rfl
theorem rk_c0 : (Rows.rateKindsRow.wf (OpenSpec.ofChange Rows.rateKindsSpec)) = true := by kernel_rfl
theorem rk_c1 : (laidOutB Tryz.prog) = true := by kernel_rfl
theorem rk_c2 : (mapsRowed Tryz.prog) = true := by kernel_rfl
theorem rk_c3 : (Tryz.f3.params.all (Tryz.prog.readableRec ·)) = true := by kernel_rfl
theorem rk_c4 : (namedTie Tryz.prog Rows.rateKindsRow.named Rows.rateKindsSpec.vars) = true := by kernel_rfl
theorem rk_c5 : ((Rows.rateKindsRow.stops == [])) = true := by kernel_rfl
theorem rk_c6 : ((Tryz.prog.stops == [])) = true := by kernel_rfl
theorem rk_c7 : ((Rows.rateKindsRow.knobs == [])) = true := by kernel_rfl
theorem rk_c8 : ((Tryz.prog.stopKnobs == [])) = true := by kernel_rfl
theorem rk_c9 : ((Rows.rateKindsRow.inPlace == Tryz.prog.inPlace 3)) = true := by unfold Program.inPlace; rw [rk_closure]; kernel_rfl
theorem rk_c10 : ((Rows.rateKindsRow.unfollowed == Tryz.prog.unfollowed 3)) = true := by kernel_rfl
theorem rk_c11 : ((Rows.rateKindsRow.recurses == Tryz.prog.recurses 3)) = true := by kernel_rfl
theorem rk_c12 : ((Rows.rateKindsRow.named == Tryz.prog.varsNamed 3)) = true := by rw [Exe.Tryz.varsNamed_of rk_closure]; kernel_rfl
theorem rk_c13 : ((Rows.rateKindsRow.maps == (Tryz.f3.params.toList ++ Rows.rateKindsSpec.plain.varTypes Tryz.prog).any (Tryz.prog.mapsRec ·))) = true := by kernel_rfl
theorem rk_c14 : ((Rows.rateKindsRow.ifaces == (Tryz.f3.params.toList ++ Rows.rateKindsSpec.plain.varTypes Tryz.prog).any (Tryz.prog.ifacesRec ·))) = true := by kernel_rfl
theorem rk_c15 : ((Rows.rateKindsRow.mapsOut == Tryz.prog.mapsAmong Tryz.f3.resultTypes.toList)) = true := by kernel_rfl
theorem rk_c16 : ((Rows.rateKindsRow.loops == (Tryz.f3.params.toList ++ Rows.rateKindsSpec.plain.varTypes Tryz.prog).any (Tryz.prog.loopsFrom ·))) = true := by kernel_rfl
theorem rk_c17 : ((Rows.rateKindsRow.wideKeys == (Tryz.f3.params.toList ++ Rows.rateKindsSpec.plain.varTypes Tryz.prog ++ Tryz.f3.resultTypes.toList).any (Tryz.prog.wideKeysFrom ·))) = true := by kernel_rfl
theorem rk_c18 : (Rows.rateKindsSpec.vars.all (Tryz.prog.varReadable ·)) = true := by kernel_rfl
theorem rk_c19 : (Tryz.f3.resultTypes.all (fun t => Tryz.prog.readableRec t && decide (t < Tryz.prog.types.size))) = true := by kernel_rfl
theorem rk_c20 : ((Rows.rateKindsRow.ifacesOut == Tryz.f3.resultTypes.toList.any (Tryz.prog.ifacesRec ·))) = true := by kernel_rfl
theorem rk_c21 : ((Rows.rateKindsRow.loopsOut == Tryz.f3.resultTypes.toList.any (Tryz.prog.loopsFrom ·))) = true := by kernel_rfl
theorem rk_c22 : ((Rows.rateKindsRow.plainKeys == Tryz.prog.plainKeys)) = true := by kernel_rfl
theorem rk_c23 : (Rows.rateKindsRow.shortTexts.isNone) = true := by kernel_rfl
theorem rk_c24 : (Tryz.prog.stopsHeard) = true := by kernel_rfl
theorem rk_c25 : (Tryz.prog.mayEnter) = true := by kernel_rfl
theorem rk_c26 : ((Rows.rateKindsRow.lifted == Tryz.prog.liftsFinal)) = true := by kernel_rfl
theorem rk_c27 : ((Tryz.prog.make == some Rows.rateKindsRow.make)) = true := by kernel_rfl
theorem rk_c28 : ((Rows.rateKindsRow.kinds == (if Rows.rateKindsRow.domain.isEmpty then [] else Tryz.f3.params.toList.map fun t => match Tryz.prog.underlying t with | some (.int k) => some k | _ => none))) = true := by kernel_rfl
theorem rk_c29 : ((Rows.rateKindsRow.pinned == Rows.rateKindsRow.pinnedBy)) = true := by kernel_rfl
theorem rk_c30 : ((Rows.rateKindsRow.veiled == (Tryz.f3.params.toList ++ Rows.rateKindsSpec.plain.varTypes Tryz.prog ++ Tryz.f3.resultTypes.toList).any (Tryz.prog.veiledRec ·))) = true := by kernel_rfl
theorem rk_c31 : (Rows.rateKindsRow.veiledFits Tryz.prog Tryz.f3.params.toList (Tryz.f3.params.toList ++ Rows.rateKindsSpec.plain.varTypes Tryz.prog ++ Tryz.f3.resultTypes.toList)) = true := by kernel_rfl
theorem rk_closed : joinedFacts Tryz.prog 3 Tryz.f3 Rows.rateKindsSpec Rows.rateKindsRow = true := and_mk (and_mk (and_mk (and_mk (and_mk (and_mk (and_mk (and_mk (and_mk (and_mk (and_mk (and_mk (and_mk (and_mk (and_mk (and_mk (and_mk (and_mk (and_mk (and_mk (and_mk (and_mk (and_mk (and_mk (and_mk (and_mk (and_mk (and_mk (and_mk (and_mk (and_mk (rk_c0) rk_c1) rk_c2) rk_c3) rk_c4) rk_c5) rk_c6) rk_c7) rk_c8) rk_c9) rk_c10) rk_c11) rk_c12) rk_c13) rk_c14) rk_c15) rk_c16) rk_c17) rk_c18) rk_c19) rk_c20) rk_c21) rk_c22) rk_c23) rk_c24) rk_c25) rk_c26) rk_c27) rk_c28) rk_c29) rk_c30) rk_c31
end Go.Proofs.YteilmpcdlpibgaaGreatDoor
