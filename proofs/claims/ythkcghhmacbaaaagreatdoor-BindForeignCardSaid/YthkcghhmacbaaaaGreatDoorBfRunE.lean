/- BindForeign: runs, part 5 of 16. -/
import Derived.Test.YthkcghhmacbaaaaGreatDoorBfAwake
set_option linter.unusedSimpArgs false
set_option maxRecDepth 100000
set_option maxHeartbeats 4000000
set_option linter.unusedVariables false
namespace Go.Exe.Tryz
open Go Go.Exe Go.Proofs.Sc
theorem bf_s_E : bf_run (bf_ftT [kvT (xS 69) true] [bf_k1 (xS 69), bf_k2 (xS 69)]) [xS 69, xS 69] = true := by kernel_rfl
theorem bf_s_U : bf_run (bf_ftT [kvT (xS 85) true] [bf_k1 (xS 85), bf_k2 (xS 85)]) [xS 85, xS 85] = true := by kernel_rfl
theorem bf_s_k : bf_run (bf_ftT [kvT (xS 107) true] [bf_k1 (xS 107), bf_k2 (xS 107)]) [xS 107, xS 107] = true := by kernel_rfl
theorem bf_o_true : bf_run (bf_ftG [kvT xN true, kvT xB true] [kvT xB true] [bf_k1 xB, bf_k2 xN]) [xN, xB] = true := by kernel_rfl
theorem bf_a_case : bf_run (bf_ftL [kvT xN true, kvT (.str 4 1702060387) true]) [xN, .str 4 1702060387] = true := by kernel_rfl
theorem bf_a_import : bf_run (bf_ftL [kvT xN true, kvT (.str 6 128034844732777) true]) [xN, .str 6 128034844732777] = true := by kernel_rfl
end Go.Exe.Tryz
