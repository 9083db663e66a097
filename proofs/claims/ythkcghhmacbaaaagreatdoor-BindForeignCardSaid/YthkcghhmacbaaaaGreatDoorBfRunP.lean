/- BindForeign: runs, part 16 of 16. -/
import Derived.Test.YthkcghhmacbaaaaGreatDoorBfAwake
set_option linter.unusedSimpArgs false
set_option maxRecDepth 100000
set_option maxHeartbeats 4000000
set_option linter.unusedVariables false
namespace Go.Exe.Tryz
open Go Go.Exe Go.Proofs.Sc
theorem bf_s_P : bf_run (bf_ftT [kvT (xS 80) true] [bf_k1 (xS 80), bf_k2 (xS 80)]) [xS 80, xS 80] = true := by kernel_rfl
theorem bf_s_f : bf_run (bf_ftT [kvT (xS 102) true] [bf_k1 (xS 102), bf_k2 (xS 102)]) [xS 102, xS 102] = true := by kernel_rfl
theorem bf_s_v : bf_run (bf_ftT [kvT (xS 118) true] [bf_k1 (xS 118), bf_k2 (xS 118)]) [xS 118, xS 118] = true := by kernel_rfl
def bf_w_for : List (List V) := lits2 ++ [[.int .i64 6, .str 3 7499622, .int .i64 1, .int .i64 1, .int .i64 17], [.int .i64 2, .str 3 7630441, .int .i64 1, .int .i64 1, .int .i64 21], [.int .i64 5, .str 1 59, .int .i64 1, .int .i64 1, .int .i64 24], [.int .i64 1, .str 0 0, .int .i64 1, .int .i64 1, .int .i64 24]]
theorem bf_b_for : bf_run (bf_ftT [kvT (.str 3 7499622) true, kvT xA true] [bf_k1 xA, bf_k2w 23 11151902200296546028678249335585018018876851766755025264 bf_w_for]) [.str 3 7499622, xA] = true := by kernel_rfl
def bf_w_struct : List (List V) := lits2 ++ [[.int .i64 6, .str 6 127970521019507, .int .i64 1, .int .i64 1, .int .i64 17], [.int .i64 2, .str 3 7630441, .int .i64 1, .int .i64 1, .int .i64 24], [.int .i64 5, .str 1 59, .int .i64 1, .int .i64 1, .int .i64 27], [.int .i64 1, .str 0 0, .int .i64 1, .int .i64 1, .int .i64 27]]
theorem bf_b_struct : bf_run (bf_ftT [kvT (.str 6 127970521019507) true, kvT xA true] [bf_k1 xA, bf_k2w 26 187097872025981255060572890459700731808213759953720879656165744 bf_w_struct]) [.str 6 127970521019507, xA] = true := by kernel_rfl
theorem bf_a_goto : bf_run (bf_ftL [kvT xN true, kvT (.str 4 1869901671) true]) [xN, .str 4 1869901671] = true := by kernel_rfl
end Go.Exe.Tryz
