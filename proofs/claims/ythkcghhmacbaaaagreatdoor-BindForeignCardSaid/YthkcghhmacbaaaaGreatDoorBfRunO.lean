/- BindForeign: runs, part 15 of 16. -/
import Derived.Test.YthkcghhmacbaaaaGreatDoorBfAwake
set_option linter.unusedSimpArgs false
set_option maxRecDepth 100000
set_option maxHeartbeats 4000000
set_option linter.unusedVariables false
namespace Go.Exe.Tryz
open Go Go.Exe Go.Proofs.Sc
theorem bf_s_O : bf_run (bf_ftT [kvT (xS 79) true] [bf_k1 (xS 79), bf_k2 (xS 79)]) [xS 79, xS 79] = true := by kernel_rfl
theorem bf_s_e : bf_run (bf_ftT [kvT (xS 101) true] [bf_k1 (xS 101), bf_k2 (xS 101)]) [xS 101, xS 101] = true := by kernel_rfl
theorem bf_s_u : bf_run (bf_ftT [kvT (xS 117) true] [bf_k1 (xS 117), bf_k2 (xS 117)]) [xS 117, xS 117] = true := by kernel_rfl
def bf_w_fallthrough : List (List V) := lits2 ++ [[.int .i64 6, .str 11 126216855287309566443544934, .int .i64 1, .int .i64 1, .int .i64 17], [.int .i64 2, .str 3 7630441, .int .i64 1, .int .i64 1, .int .i64 29], [.int .i64 5, .str 1 59, .int .i64 1, .int .i64 1, .int .i64 32], [.int .i64 1, .str 0 0, .int .i64 1, .int .i64 1, .int .i64 32]]
theorem bf_b_fallthrough : bf_run (bf_ftT [kvT (.str 11 126216855287309566443544934) true, kvT xA true] [bf_k1 xA, bf_k2w 31 205716285819782298721772013416307700482072179320086679445893790344207884656 bf_w_fallthrough]) [.str 11 126216855287309566443544934, xA] = true := by kernel_rfl
def bf_w_select : List (List V) := lits2 ++ [[.int .i64 6, .str 6 127970252186995, .int .i64 1, .int .i64 1, .int .i64 17], [.int .i64 2, .str 3 7630441, .int .i64 1, .int .i64 1, .int .i64 24], [.int .i64 5, .str 1 59, .int .i64 1, .int .i64 1, .int .i64 27], [.int .i64 1, .str 0 0, .int .i64 1, .int .i64 1, .int .i64 27]]
theorem bf_b_select : bf_run (bf_ftT [kvT (.str 6 127970252186995) true, kvT xA true] [bf_k1 xA, bf_k2w 26 187097872025981163581609401798108201528998047057603992192508272 bf_w_select]) [.str 6 127970252186995, xA] = true := by kernel_rfl
theorem bf_a_go : bf_run (bf_ftL [kvT xN true, kvT (.str 2 28519) true]) [xN, .str 2 28519] = true := by kernel_rfl
end Go.Exe.Tryz
