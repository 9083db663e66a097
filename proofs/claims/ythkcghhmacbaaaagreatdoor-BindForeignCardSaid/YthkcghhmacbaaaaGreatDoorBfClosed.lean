/- The closed facts of the row of BindForeign, one by one. -/
import Derived.Test.YthkcghhmacbaaaaGreatDoorRows
import Derived.ProofKit
import Derived.Stop.Joined
import Derived.Test.YthkcghhmacbaaaaGreatDoorExeGn
set_option linter.unusedVariables false
set_option linter.unusedSimpArgs false
set_option maxRecDepth 100000
namespace Go.Proofs.YthkcghhmacbaaaaGreatDoor
open Go Go.Proofs
theorem and_mk {a b : Bool} (h : a = true) (k : b = true) : (a && b) = true := by rw [h, k]; rfl
theorem bf_closure : Tryz.prog.closure 3 = [3, 5, 12, 7, 17, 18, 19, 20, 43, 44, 86, 93, 39, 94, 22, 48, 49, 102, 195, 196, 277, 332, 50, 52, 103, 51, 21, 45, 46, 95, 183, 265, 184, 267, 185, 268, 312, 348, 313, 314, 315, 349, 377, 350, 378, 398, 399, 400, 418, 316, 266, 317, 318, 351, 319, 352, 320, 321, 353, 322, 354, 96, 186, 187, 269, 189, 97, 270, 190, 99, 188, 191, 271, 323, 324, 110, 208, 101, 272, 100, 192, 193, 273, 274, 325, 326, 355, 356, 357, 361, 358, 379, 360, 380, 401, 419, 433, 451, 366, 452, 330, 363, 381, 382, 328, 403, 47, 364, 365, 331, 367, 368, 383, 404, 405, 420, 438, 454, 406, 327, 426, 443, 440, 421, 439, 455, 441, 442, 444, 422, 445, 447, 446, 423, 448, 424, 425, 359, 434, 453, 435, 436, 437, 402, 275, 329, 362, 276, 98, 194, 23, 24, 53, 54, 104, 105, 55, 106, 56, 108, 206, 207, 107, 197, 203, 283, 198, 278, 199, 279, 280, 200, 281, 282, 333, 201, 202, 204, 205, 57, 25, 58, 109, 111, 59, 26, 60, 27, 61, 62, 112, 209, 28, 8, 29, 30, 63, 34, 40, 87, 175, 88, 176, 260, 91, 181, 261, 262, 213, 286, 68, 120, 178, 177, 113, 66, 121, 215, 131, 67, 133, 225, 122, 216, 290, 338, 233, 211, 90, 180, 291, 339, 371, 385, 386, 407, 408, 387, 388, 409, 410, 427, 428, 292, 293, 294, 340, 372, 389, 373, 392, 370, 384, 411, 429, 336, 337, 390, 391, 123, 118, 214, 287, 334, 296, 212, 335, 369, 288, 289, 124, 217, 295, 71, 130, 222, 221, 297, 345, 298, 346, 300, 299, 223, 129, 74, 341, 342, 374, 393, 412, 394, 343, 310, 375, 395, 413, 430, 431, 449, 414, 416, 415, 396, 397, 417, 432, 450, 376, 344, 264, 117, 311, 301, 218, 125, 219, 126, 263, 89, 179, 15, 41, 92, 182, 31, 32, 64, 114, 115, 210, 285, 284, 116, 119, 65, 33, 13, 14, 38, 16, 42, 6] := by kernel_rfl
theorem bf_c0 : (Rows.bindForeignRow.wf (OpenSpec.ofChange Rows.bindForeignSpec)) = true := by kernel_rfl
theorem bf_c1 : (laidOutB Tryz.prog) = true := by kernel_rfl
theorem bf_c2 : (mapsRowed Tryz.prog) = true := by kernel_rfl
theorem bf_c3 : (Tryz.f3.params.all (Tryz.prog.readableRec ·)) = true := by kernel_rfl
theorem bf_c4 : (namedTie Tryz.prog Rows.bindForeignRow.named Rows.bindForeignSpec.vars) = true := by kernel_rfl
theorem bf_c5 : ((Rows.bindForeignRow.stops == [])) = true := by kernel_rfl
theorem bf_c6 : ((Tryz.prog.stops == [])) = true := by kernel_rfl
theorem bf_c7 : ((Rows.bindForeignRow.knobs == [])) = true := by kernel_rfl
theorem bf_c8 : ((Tryz.prog.stopKnobs == [])) = true := by kernel_rfl
theorem bf_c9 : ((Rows.bindForeignRow.inPlace == Tryz.prog.inPlace 3)) = true := by unfold Program.inPlace; rw [bf_closure]; kernel_rfl
theorem bf_c10 : ((Rows.bindForeignRow.unfollowed == Tryz.prog.unfollowed 3)) = true := by kernel_rfl
theorem bf_c11 : ((Rows.bindForeignRow.recurses == Tryz.prog.recurses 3)) = true := by kernel_rfl
theorem bf_c12 : ((Rows.bindForeignRow.named == Tryz.prog.varsNamed 3)) = true := by rw [Exe.Tryz.varsNamed_of bf_closure]; kernel_rfl
theorem bf_c13 : ((Rows.bindForeignRow.maps == (Tryz.f3.params.toList ++ Rows.bindForeignSpec.plain.varTypes Tryz.prog).any (Tryz.prog.mapsRec ·))) = true := by kernel_rfl
theorem bf_c14 : ((Rows.bindForeignRow.ifaces == (Tryz.f3.params.toList ++ Rows.bindForeignSpec.plain.varTypes Tryz.prog).any (Tryz.prog.ifacesRec ·))) = true := by kernel_rfl
theorem bf_c15 : ((Rows.bindForeignRow.mapsOut == Tryz.prog.mapsAmong Tryz.f3.resultTypes.toList)) = true := by kernel_rfl
theorem bf_c16 : ((Rows.bindForeignRow.loops == (Tryz.f3.params.toList ++ Rows.bindForeignSpec.plain.varTypes Tryz.prog).any (Tryz.prog.loopsFrom ·))) = true := by kernel_rfl
theorem bf_c17 : ((Rows.bindForeignRow.wideKeys == (Tryz.f3.params.toList ++ Rows.bindForeignSpec.plain.varTypes Tryz.prog ++ Tryz.f3.resultTypes.toList).any (Tryz.prog.wideKeysFrom ·))) = true := by kernel_rfl
theorem bf_c18 : (Rows.bindForeignSpec.vars.all (Tryz.prog.varReadable ·)) = true := by kernel_rfl
theorem bf_c19 : (Tryz.f3.resultTypes.all (fun t => Tryz.prog.readableRec t && decide (t < Tryz.prog.types.size))) = true := by kernel_rfl
theorem bf_c20 : ((Rows.bindForeignRow.ifacesOut == Tryz.f3.resultTypes.toList.any (Tryz.prog.ifacesRec ·))) = true := by kernel_rfl
theorem bf_c21 : ((Rows.bindForeignRow.loopsOut == Tryz.f3.resultTypes.toList.any (Tryz.prog.loopsFrom ·))) = true := by kernel_rfl
theorem bf_c22 : ((Rows.bindForeignRow.plainKeys == Tryz.prog.plainKeys)) = true := by kernel_rfl
theorem bf_c23 : (Rows.bindForeignRow.shortTexts.isNone) = true := by kernel_rfl
theorem bf_c24 : (Tryz.prog.stopsHeard) = true := by kernel_rfl
theorem bf_c25 : (Tryz.prog.mayEnter) = true := by kernel_rfl
theorem bf_c26 : ((Rows.bindForeignRow.lifted == Tryz.prog.liftsFinal)) = true := by kernel_rfl
theorem bf_c27 : ((Tryz.prog.make == some Rows.bindForeignRow.make)) = true := by kernel_rfl
theorem bf_c28 : ((Rows.bindForeignRow.kinds == (if Rows.bindForeignRow.domain.isEmpty then [] else Tryz.f3.params.toList.map fun t => match Tryz.prog.underlying t with | some (.int k) => some k | _ => none))) = true := by kernel_rfl
theorem bf_c29 : ((Rows.bindForeignRow.pinned == Rows.bindForeignRow.pinnedBy)) = true := by kernel_rfl
theorem bf_c30 : ((Rows.bindForeignRow.veiled == (Tryz.f3.params.toList ++ Rows.bindForeignSpec.plain.varTypes Tryz.prog ++ Tryz.f3.resultTypes.toList).any (Tryz.prog.veiledRec ·))) = true := by kernel_rfl
theorem bf_c31 : (Rows.bindForeignRow.veiledFits Tryz.prog Tryz.f3.params.toList (Tryz.f3.params.toList ++ Rows.bindForeignSpec.plain.varTypes Tryz.prog ++ Tryz.f3.resultTypes.toList)) = true := by kernel_rfl
theorem bf_closed : joinedFacts Tryz.prog 3 Tryz.f3 Rows.bindForeignSpec Rows.bindForeignRow = true := and_mk (and_mk (and_mk (and_mk (and_mk (and_mk (and_mk (and_mk (and_mk (and_mk (and_mk (and_mk (and_mk (and_mk (and_mk (and_mk (and_mk (and_mk (and_mk (and_mk (and_mk (and_mk (and_mk (and_mk (and_mk (and_mk (and_mk (and_mk (and_mk (and_mk (and_mk (bf_c0) bf_c1) bf_c2) bf_c3) bf_c4) bf_c5) bf_c6) bf_c7) bf_c8) bf_c9) bf_c10) bf_c11) bf_c12) bf_c13) bf_c14) bf_c15) bf_c16) bf_c17) bf_c18) bf_c19) bf_c20) bf_c21) bf_c22) bf_c23) bf_c24) bf_c25) bf_c26) bf_c27) bf_c28) bf_c29) bf_c30) bf_c31
end Go.Proofs.YthkcghhmacbaaaaGreatDoor
