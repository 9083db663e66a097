/- BindForeign: runs, part 10 of 16. -/
import Derived.Test.YthkcghhmacbaaaaGreatDoorBfAwake
set_option linter.unusedSimpArgs false
set_option maxRecDepth 100000
set_option maxHeartbeats 4000000
set_option linter.unusedVariables false
namespace Go.Exe.Tryz
open Go Go.Exe Go.Proofs.Sc
theorem bf_s_J : bf_run (bf_ftT [kvT (xS 74) true] [bf_k1 (xS 74), bf_k2 (xS 74)]) [xS 74, xS 74] = true := by kernel_rfl
theorem bf_s_Z : bf_run (bf_ftT [kvT (xS 90) true] [bf_k1 (xS 90), bf_k2 (xS 90)]) [xS 90, xS 90] = true := by kernel_rfl
theorem bf_s_p : bf_run (bf_ftT [kvT (xS 112) true] [bf_k1 (xS 112), bf_k2 (xS 112)]) [xS 112, xS 112] = true := by kernel_rfl
def bf_w_const : List (List V) := lits2 ++ [[.int .i64 6, .str 5 500152823651, .int .i64 1, .int .i64 1, .int .i64 17], [.int .i64 2, .str 3 7630441, .int .i64 1, .int .i64 1, .int .i64 23], [.int .i64 5, .str 1 59, .int .i64 1, .int .i64 1, .int .i64 26], [.int .i64 1, .str 0 0, .int .i64 1, .int .i64 1, .int .i64 26]]
theorem bf_b_const : bf_run (bf_ftT [kvT (.str 5 500152823651) true, kvT xA true] [bf_k1 xA, bf_k2w 25 730851062601580465060248019611946030501231146077583380275568 bf_w_const]) [.str 5 500152823651, xA] = true := by kernel_rfl
def bf_w_if : List (List V) := lits2 ++ [[.int .i64 6, .str 2 26217, .int .i64 1, .int .i64 1, .int .i64 17], [.int .i64 2, .str 3 7630441, .int .i64 1, .int .i64 1, .int .i64 20], [.int .i64 5, .str 1 59, .int .i64 1, .int .i64 1, .int .i64 23], [.int .i64 1, .str 0 0, .int .i64 1, .int .i64 1, .int .i64 23]]
theorem bf_b_if : bf_run (bf_ftT [kvT (.str 2 26217) true, kvT xA true] [bf_k1 xA, bf_k2w 22 43562117968860901111674359081637185697996604589695344 bf_w_if]) [.str 2 26217, xA] = true := by kernel_rfl
theorem bf_a_defer : bf_run (bf_ftL [kvT xN true, kvT (.str 5 491327481188) true]) [xN, .str 5 491327481188] = true := by kernel_rfl
theorem bf_a_var : bf_run (bf_ftL [kvT xN true, kvT (.str 3 7496054) true]) [xN, .str 3 7496054] = true := by kernel_rfl
end Go.Exe.Tryz
