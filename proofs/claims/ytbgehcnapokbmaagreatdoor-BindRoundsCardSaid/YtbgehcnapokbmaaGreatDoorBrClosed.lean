/- The closed facts of the row of BindRounds, one by one. -/
import Derived.Test.YtbgehcnapokbmaaGreatDoorRows
import Derived.ProofKit
import Derived.Stop.Joined
import Derived.Test.YtbgehcnapokbmaaGreatDoorExeGn
set_option maxRecDepth 100000
namespace Go.Proofs.YtbgehcnapokbmaaGreatDoor
open Go Go.Proofs
theorem and_mk {a b : Bool} (h : a = true) (k : b = true) : (a && b) = true := by rw [h, k]; rfl
theorem br_closure : Tryz.prog.closure 3 = [3, 5, 6, 14, 24, 25, 26, 27, 68, 69, 61, 157, 20, 158, 29, 72, 73, 164, 245, 246, 300, 341, 74, 76, 165, 75, 28, 70, 71, 159, 233, 288, 234, 290, 235, 291, 321, 353, 322, 323, 324, 354, 389, 355, 390, 408, 409, 410, 423, 325, 289, 326, 327, 356, 328, 357, 329, 330, 358, 331, 359, 160, 236, 237, 292, 239, 161, 293, 240, 163, 238, 241, 294, 332, 333, 172, 258, 93, 295, 92, 242, 243, 296, 297, 334, 335, 360, 361, 362, 366, 363, 391, 365, 392, 411, 424, 434, 450, 371, 451, 339, 368, 393, 394, 337, 413, 42, 369, 370, 340, 372, 373, 395, 414, 415, 425, 439, 453, 416, 336, 431, 444, 441, 426, 440, 454, 442, 443, 445, 427, 446, 448, 447, 428, 449, 429, 430, 364, 435, 452, 436, 437, 438, 412, 298, 338, 367, 299, 162, 244, 30, 31, 77, 78, 166, 167, 79, 168, 80, 170, 256, 257, 169, 247, 253, 306, 248, 301, 249, 302, 303, 250, 304, 305, 342, 251, 252, 254, 255, 81, 32, 82, 171, 173, 83, 33, 84, 34, 85, 86, 174, 259, 35, 15, 36, 37, 87, 41, 21, 62, 148, 63, 149, 228, 66, 155, 229, 230, 262, 307, 91, 153, 151, 150, 175, 57, 136, 218, 98, 90, 100, 187, 137, 219, 274, 317, 197, 260, 65, 154, 275, 318, 350, 381, 382, 403, 404, 383, 384, 405, 406, 420, 421, 276, 277, 278, 319, 351, 385, 352, 388, 375, 396, 407, 422, 345, 346, 386, 387, 138, 180, 263, 308, 343, 279, 261, 344, 374, 309, 310, 139, 196, 271, 45, 97, 184, 183, 264, 311, 265, 312, 267, 266, 185, 96, 48, 313, 314, 347, 376, 397, 377, 315, 286, 348, 378, 398, 417, 418, 432, 399, 401, 400, 379, 380, 402, 419, 433, 349, 316, 232, 179, 287, 270, 212, 140, 220, 141, 231, 64, 152, 12, 22, 67, 156, 38, 39, 88, 176, 177, 188, 269, 268, 178, 181, 89, 40, 10, 11, 19, 13, 23] := by kernel_rfl
theorem br_c0 : (Rows.bindRoundsRow.wf (OpenSpec.ofChange Rows.bindRoundsSpec)) = true := by kernel_rfl
theorem br_c1 : (laidOutB Tryz.prog) = true := by kernel_rfl
theorem br_c2 : (mapsRowed Tryz.prog) = true := by kernel_rfl
theorem br_c3 : (Tryz.f3.params.all (Tryz.prog.readableRec ·)) = true := by kernel_rfl
theorem br_c4 : (namedTie Tryz.prog Rows.bindRoundsRow.named Rows.bindRoundsSpec.vars) = true := by kernel_rfl
theorem br_c5 : ((Rows.bindRoundsRow.stops == [])) = true := by kernel_rfl
theorem br_c6 : ((Tryz.prog.stops == [])) = true := by kernel_rfl
theorem br_c7 : ((Rows.bindRoundsRow.knobs == [])) = true := by kernel_rfl
theorem br_c8 : ((Tryz.prog.stopKnobs == [])) = true := by kernel_rfl
theorem br_c9 : ((Rows.bindRoundsRow.inPlace == Tryz.prog.inPlace 3)) = true := by unfold Program.inPlace; rw [br_closure]; kernel_rfl
theorem br_c10 : ((Rows.bindRoundsRow.unfollowed == Tryz.prog.unfollowed 3)) = true := by kernel_rfl
theorem br_c11 : ((Rows.bindRoundsRow.recurses == Tryz.prog.recurses 3)) = true := by kernel_rfl
theorem br_c12 : ((Rows.bindRoundsRow.named == Tryz.prog.varsNamed 3)) = true := by rw [Exe.Tryz.varsNamed_of br_closure]; kernel_rfl
theorem br_c13 : ((Rows.bindRoundsRow.maps == (Tryz.f3.params.toList ++ Rows.bindRoundsSpec.plain.varTypes Tryz.prog).any (Tryz.prog.mapsRec ·))) = true := by kernel_rfl
theorem br_c14 : ((Rows.bindRoundsRow.ifaces == (Tryz.f3.params.toList ++ Rows.bindRoundsSpec.plain.varTypes Tryz.prog).any (Tryz.prog.ifacesRec ·))) = true := by kernel_rfl
theorem br_c15 : ((Rows.bindRoundsRow.mapsOut == Tryz.prog.mapsAmong Tryz.f3.resultTypes.toList)) = true := by kernel_rfl
theorem br_c16 : ((Rows.bindRoundsRow.loops == (Tryz.f3.params.toList ++ Rows.bindRoundsSpec.plain.varTypes Tryz.prog).any (Tryz.prog.loopsFrom ·))) = true := by kernel_rfl
theorem br_c17 : ((Rows.bindRoundsRow.wideKeys == (Tryz.f3.params.toList ++ Rows.bindRoundsSpec.plain.varTypes Tryz.prog ++ Tryz.f3.resultTypes.toList).any (Tryz.prog.wideKeysFrom ·))) = true := by kernel_rfl
theorem br_c18 : (Rows.bindRoundsSpec.vars.all (Tryz.prog.varReadable ·)) = true := by kernel_rfl
theorem br_c19 : (Tryz.f3.resultTypes.all (fun t => Tryz.prog.readableRec t && decide (t < Tryz.prog.types.size))) = true := by kernel_rfl
theorem br_c20 : ((Rows.bindRoundsRow.ifacesOut == Tryz.f3.resultTypes.toList.any (Tryz.prog.ifacesRec ·))) = true := by kernel_rfl
theorem br_c21 : ((Rows.bindRoundsRow.loopsOut == Tryz.f3.resultTypes.toList.any (Tryz.prog.loopsFrom ·))) = true := by kernel_rfl
theorem br_c22 : ((Rows.bindRoundsRow.plainKeys == Tryz.prog.plainKeys)) = true := by kernel_rfl
theorem br_c23 : (Rows.bindRoundsRow.shortTexts.isNone) = true := by kernel_rfl
theorem br_c24 : (Tryz.prog.stopsHeard) = true := by kernel_rfl
theorem br_c25 : (Tryz.prog.mayEnter) = true := by kernel_rfl
theorem br_c26 : ((Rows.bindRoundsRow.lifted == Tryz.prog.liftsFinal)) = true := by kernel_rfl
theorem br_c27 : ((Tryz.prog.make == some Rows.bindRoundsRow.make)) = true := by kernel_rfl
theorem br_c28 : ((Rows.bindRoundsRow.kinds == (if Rows.bindRoundsRow.domain.isEmpty then [] else Tryz.f3.params.toList.map fun t => match Tryz.prog.underlying t with | some (.int k) => some k | _ => none))) = true := by kernel_rfl
theorem br_c29 : ((Rows.bindRoundsRow.pinned == Rows.bindRoundsRow.pinnedBy)) = true := by kernel_rfl
theorem br_c30 : ((Rows.bindRoundsRow.veiled == (Tryz.f3.params.toList ++ Rows.bindRoundsSpec.plain.varTypes Tryz.prog ++ Tryz.f3.resultTypes.toList).any (Tryz.prog.veiledRec ·))) = true := by kernel_rfl
theorem br_c31 : (Rows.bindRoundsRow.veiledFits Tryz.prog Tryz.f3.params.toList (Tryz.f3.params.toList ++ Rows.bindRoundsSpec.plain.varTypes Tryz.prog ++ Tryz.f3.resultTypes.toList)) = true := by kernel_rfl
theorem br_closed : joinedFacts Tryz.prog 3 Tryz.f3 Rows.bindRoundsSpec Rows.bindRoundsRow = true := and_mk (and_mk (and_mk (and_mk (and_mk (and_mk (and_mk (and_mk (and_mk (and_mk (and_mk (and_mk (and_mk (and_mk (and_mk (and_mk (and_mk (and_mk (and_mk (and_mk (and_mk (and_mk (and_mk (and_mk (and_mk (and_mk (and_mk (and_mk (and_mk (and_mk (and_mk (br_c0) br_c1) br_c2) br_c3) br_c4) br_c5) br_c6) br_c7) br_c8) br_c9) br_c10) br_c11) br_c12) br_c13) br_c14) br_c15) br_c16) br_c17) br_c18) br_c19) br_c20) br_c21) br_c22) br_c23) br_c24) br_c25) br_c26) br_c27) br_c28) br_c29) br_c30) br_c31
end Go.Proofs.YtbgehcnapokbmaaGreatDoor
