/- BindForeign: runs, part 7 of 16. -/
import Derived.Test.YthkcghhmacbaaaaGreatDoorBfAwake
set_option linter.unusedSimpArgs false
set_option maxRecDepth 100000
set_option maxHeartbeats 4000000
set_option linter.unusedVariables false
namespace Go.Exe.Tryz
open Go Go.Exe Go.Proofs.Sc
theorem bf_s_G : bf_run (bf_ftT [kvT (xS 71) true] [bf_k1 (xS 71), bf_k2 (xS 71)]) [xS 71, xS 71] = true := by kernel_rfl
theorem bf_s_W : bf_run (bf_ftT [kvT (xS 87) true] [bf_k1 (xS 87), bf_k2 (xS 87)]) [xS 87, xS 87] = true := by kernel_rfl
theorem bf_s_m : bf_run (bf_ftT [kvT (xS 109) true] [bf_k1 (xS 109), bf_k2 (xS 109)]) [xS 109, xS 109] = true := by kernel_rfl
def bf_w_break : List (List V) := lits2 ++ [[.int .i64 6, .str 5 461195539042, .int .i64 1, .int .i64 1, .int .i64 17], [.int .i64 2, .str 3 7630441, .int .i64 1, .int .i64 1, .int .i64 23], [.int .i64 5, .str 1 59, .int .i64 1, .int .i64 1, .int .i64 26], [.int .i64 1, .str 0 0, .int .i64 1, .int .i64 1, .int .i64 26]]
theorem bf_b_break : bf_run (bf_ftT [kvT (.str 5 461195539042) true, kvT xA true] [bf_k1 xA, bf_k2w 25 730851062588323988044684852889428198071928105315773093994864 bf_w_break]) [.str 5 461195539042, xA] = true := by kernel_rfl
def bf_w_func : List (List V) := lits2 ++ [[.int .i64 6, .str 4 1668183398, .int .i64 1, .int .i64 1, .int .i64 17], [.int .i64 2, .str 3 7630441, .int .i64 1, .int .i64 1, .int .i64 22], [.int .i64 5, .str 1 59, .int .i64 1, .int .i64 1, .int .i64 25], [.int .i64 1, .str 0 0, .int .i64 1, .int .i64 1, .int .i64 25]]
theorem bf_b_func : bf_run (bf_ftT [kvT (.str 4 1668183398) true, kvT xA true] [bf_k1 xA, bf_k2w 24 2854886963190259951446356338198333208423245159192496136560 bf_w_func]) [.str 4 1668183398, xA] = true := by kernel_rfl
theorem bf_a_const : bf_run (bf_ftL [kvT xN true, kvT (.str 5 500152823651) true]) [xN, .str 5 500152823651] = true := by kernel_rfl
theorem bf_a_struct : bf_run (bf_ftL [kvT xN true, kvT (.str 6 127970521019507) true]) [xN, .str 6 127970521019507] = true := by kernel_rfl
end Go.Exe.Tryz
