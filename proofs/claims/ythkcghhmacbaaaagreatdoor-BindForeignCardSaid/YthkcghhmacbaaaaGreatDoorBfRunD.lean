/- BindForeign: runs, part 4 of 16. -/
import Derived.Test.YthkcghhmacbaaaaGreatDoorBfAwake
set_option linter.unusedSimpArgs false
set_option maxRecDepth 100000
set_option maxHeartbeats 4000000
set_option linter.unusedVariables false
namespace Go.Exe.Tryz
open Go Go.Exe Go.Proofs.Sc
theorem bf_s_D : bf_run (bf_ftT [kvT (xS 68) true] [bf_k1 (xS 68), bf_k2 (xS 68)]) [xS 68, xS 68] = true := by kernel_rfl
theorem bf_s_T : bf_run (bf_ftT [kvT (xS 84) true] [bf_k1 (xS 84), bf_k2 (xS 84)]) [xS 84, xS 84] = true := by kernel_rfl
theorem bf_s_j : bf_run (bf_ftT [kvT (xS 106) true] [bf_k1 (xS 106), bf_k2 (xS 106)]) [xS 106, xS 106] = true := by kernel_rfl
theorem bf_s_z : bf_run (bf_ftT [kvT (xS 122) true] [bf_k1 (xS 122), bf_k2 (xS 122)]) [xS 122, xS 122] = true := by kernel_rfl
theorem bf_a_break : bf_run (bf_ftL [kvT xN true, kvT (.str 5 461195539042) true]) [xN, .str 5 461195539042] = true := by kernel_rfl
theorem bf_a_if : bf_run (bf_ftL [kvT xN true, kvT (.str 2 26217) true]) [xN, .str 2 26217] = true := by kernel_rfl
end Go.Exe.Tryz
