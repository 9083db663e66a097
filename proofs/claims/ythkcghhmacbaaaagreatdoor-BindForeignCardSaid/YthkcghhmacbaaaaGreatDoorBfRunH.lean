/- BindForeign: runs, part 8 of 16. -/
import Derived.Test.YthkcghhmacbaaaaGreatDoorBfAwake
set_option linter.unusedSimpArgs false
set_option maxRecDepth 100000
set_option maxHeartbeats 4000000
set_option linter.unusedVariables false
namespace Go.Exe.Tryz
open Go Go.Exe Go.Proofs.Sc
theorem bf_s_H : bf_run (bf_ftT [kvT (xS 72) true] [bf_k1 (xS 72), bf_k2 (xS 72)]) [xS 72, xS 72] = true := by kernel_rfl
theorem bf_s_X : bf_run (bf_ftT [kvT (xS 88) true] [bf_k1 (xS 88), bf_k2 (xS 88)]) [xS 88, xS 88] = true := by kernel_rfl
theorem bf_s_n : bf_run (bf_ftT [kvT (xS 110) true] [bf_k1 (xS 110), bf_k2 (xS 110)]) [xS 110, xS 110] = true := by kernel_rfl
def bf_w_case : List (List V) := lits2 ++ [[.int .i64 6, .str 4 1702060387, .int .i64 1, .int .i64 1, .int .i64 17], [.int .i64 2, .str 3 7630441, .int .i64 1, .int .i64 1, .int .i64 22], [.int .i64 5, .str 1 59, .int .i64 1, .int .i64 1, .int .i64 25], [.int .i64 1, .str 0 0, .int .i64 1, .int .i64 1, .int .i64 25]]
theorem bf_b_case : bf_run (bf_ftT [kvT (.str 4 1702060387) true, kvT xA true] [bf_k1 xA, bf_k2w 24 2854886963201787693447430934394758851902090489142540722544 bf_w_case]) [.str 4 1702060387, xA] = true := by kernel_rfl
def bf_w_go : List (List V) := lits2 ++ [[.int .i64 6, .str 2 28519, .int .i64 1, .int .i64 1, .int .i64 17], [.int .i64 2, .str 3 7630441, .int .i64 1, .int .i64 1, .int .i64 20], [.int .i64 5, .str 1 59, .int .i64 1, .int .i64 1, .int .i64 23], [.int .i64 1, .str 0 0, .int .i64 1, .int .i64 1, .int .i64 23]]
theorem bf_b_go : bf_run (bf_ftT [kvT (.str 2 28519) true, kvT xA true] [bf_k1 xA, bf_k2w 22 43562117969644231120326359424529874044304535012467056 bf_w_go]) [.str 2 28519, xA] = true := by kernel_rfl
theorem bf_a_continue : bf_run (bf_ftL [kvT xN true, kvT (.str 8 7310870969309884259) true]) [xN, .str 8 7310870969309884259] = true := by kernel_rfl
theorem bf_a_switch : bf_run (bf_ftL [kvT xN true, kvT (.str 6 114776364119923) true]) [xN, .str 6 114776364119923] = true := by kernel_rfl
end Go.Exe.Tryz
