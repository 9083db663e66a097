/- BindForeign: runs, part 3 of 16. -/
import Derived.Test.YthkcghhmacbaaaaGreatDoorBfAwake
set_option linter.unusedSimpArgs false
set_option maxRecDepth 100000
set_option maxHeartbeats 4000000
set_option linter.unusedVariables false
namespace Go.Exe.Tryz
open Go Go.Exe Go.Proofs.Sc
theorem bf_s_C : bf_run (bf_ftT [kvT (xS 67) true] [bf_k1 (xS 67), bf_k2 (xS 67)]) [xS 67, xS 67] = true := by kernel_rfl
theorem bf_s_S : bf_run (bf_ftT [kvT (xS 83) true] [bf_k1 (xS 83), bf_k2 (xS 83)]) [xS 83, xS 83] = true := by kernel_rfl
theorem bf_s_i : bf_run (bf_ftT [kvT (xS 105) true] [bf_k1 (xS 105), bf_k2 (xS 105)]) [xS 105, xS 105] = true := by kernel_rfl
theorem bf_s_y : bf_run (bf_ftT [kvT (xS 121) true] [bf_k1 (xS 121), bf_k2 (xS 121)]) [xS 121, xS 121] = true := by kernel_rfl
def bf_w_var : List (List V) := lits2 ++ [[.int .i64 6, .str 3 7496054, .int .i64 1, .int .i64 1, .int .i64 17], [.int .i64 2, .str 3 7630441, .int .i64 1, .int .i64 1, .int .i64 21], [.int .i64 5, .str 1 59, .int .i64 1, .int .i64 1, .int .i64 24], [.int .i64 1, .str 0 0, .int .i64 1, .int .i64 1, .int .i64 24]]
theorem bf_b_var : bf_run (bf_ftT [kvT (.str 3 7496054) true, kvT xA true] [bf_k1 xA, bf_k2w 23 11151902200295331901193075427147380698277535217776550256 bf_w_var]) [.str 3 7496054, xA] = true := by kernel_rfl
theorem bf_a_select : bf_run (bf_ftL [kvT xN true, kvT (.str 6 127970252186995) true]) [xN, .str 6 127970252186995] = true := by kernel_rfl
end Go.Exe.Tryz
