/- BindForeign: runs, part 12 of 16. -/
import Derived.Test.YthkcghhmacbaaaaGreatDoorBfAwake
set_option linter.unusedSimpArgs false
set_option maxRecDepth 100000
set_option maxHeartbeats 4000000
set_option linter.unusedVariables false
namespace Go.Exe.Tryz
open Go Go.Exe Go.Proofs.Sc
theorem bf_s_L : bf_run (bf_ftT [kvT (xS 76) true] [bf_k1 (xS 76), bf_k2 (xS 76)]) [xS 76, xS 76] = true := by kernel_rfl
theorem bf_s_b : bf_run (bf_ftT [kvT (xS 98) true] [bf_k1 (xS 98), bf_k2 (xS 98)]) [xS 98, xS 98] = true := by kernel_rfl
theorem bf_s_r : bf_run (bf_ftT [kvT (xS 114) true] [bf_k1 (xS 114), bf_k2 (xS 114)]) [xS 114, xS 114] = true := by kernel_rfl
def bf_w_default : List (List V) := lits2 ++ [[.int .i64 6, .str 7 32770348699510116, .int .i64 1, .int .i64 1, .int .i64 17], [.int .i64 2, .str 3 7630441, .int .i64 1, .int .i64 1, .int .i64 25], [.int .i64 5, .str 1 59, .int .i64 1, .int .i64 1, .int .i64 28], [.int .i64 1, .str 0 0, .int .i64 1, .int .i64 1, .int .i64 28]]
theorem bf_b_default : bf_run (bf_ftT [kvT (.str 7 32770348699510116) true, kvT xA true] [bf_k1 xA, bf_k2w 27 47897055238654568497912820296646104882989965342025761262389125488 bf_w_default]) [.str 7 32770348699510116, xA] = true := by kernel_rfl
def bf_w_package : List (List V) := lits2 ++ [[.int .i64 6, .str 7 28542640758940016, .int .i64 1, .int .i64 1, .int .i64 17], [.int .i64 2, .str 3 7630441, .int .i64 1, .int .i64 1, .int .i64 25], [.int .i64 5, .str 1 59, .int .i64 1, .int .i64 1, .int .i64 28], [.int .i64 1, .str 0 0, .int .i64 1, .int .i64 1, .int .i64 28]]
theorem bf_b_package : bf_run (bf_ftT [kvT (.str 7 28542640758940016) true, kvT xA true] [bf_k1 xA, bf_k2w 27 47897055237215954033245180425028969137935826002516780044398059888 bf_w_package]) [.str 7 28542640758940016, xA] = true := by kernel_rfl
theorem bf_a_fallthrough : bf_run (bf_ftL [kvT xN true, kvT (.str 11 126216855287309566443544934) true]) [xN, .str 11 126216855287309566443544934] = true := by kernel_rfl
theorem bf_r2 : bf_run (bf_ftL [kvT xU true, kvT xW false]) [xU, xW] = true := by kernel_rfl
end Go.Exe.Tryz
