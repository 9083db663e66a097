/- BindForeign: runs, part 6 of 16. -/
import Derived.Test.YthkcghhmacbaaaaGreatDoorBfAwake
set_option linter.unusedSimpArgs false
set_option maxRecDepth 100000
set_option maxHeartbeats 4000000
set_option linter.unusedVariables false
namespace Go.Exe.Tryz
open Go Go.Exe Go.Proofs.Sc
theorem bf_s_F : bf_run (bf_ftT [kvT (xS 70) true] [bf_k1 (xS 70), bf_k2 (xS 70)]) [xS 70, xS 70] = true := by kernel_rfl
theorem bf_s_V : bf_run (bf_ftT [kvT (xS 86) true] [bf_k1 (xS 86), bf_k2 (xS 86)]) [xS 86, xS 86] = true := by kernel_rfl
theorem bf_s_l : bf_run (bf_ftT [kvT (xS 108) true] [bf_k1 (xS 108), bf_k2 (xS 108)]) [xS 108, xS 108] = true := by kernel_rfl
theorem bf_o_false : bf_run (bf_ftG [kvT xN true, kvT xB true] [kvT xB false] [bf_k1 xB, bf_k2 xN]) [xN, xB] = true := by kernel_rfl
theorem bf_a_chan : bf_run (bf_ftL [kvT xN true, kvT (.str 4 1851877475) true]) [xN, .str 4 1851877475] = true := by kernel_rfl
theorem bf_a_package : bf_run (bf_ftL [kvT xN true, kvT (.str 7 28542640758940016) true]) [xN, .str 7 28542640758940016] = true := by kernel_rfl
end Go.Exe.Tryz
