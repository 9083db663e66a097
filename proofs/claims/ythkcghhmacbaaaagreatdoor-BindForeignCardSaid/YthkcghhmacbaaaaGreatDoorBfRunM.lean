/- BindForeign: runs, part 13 of 16. -/
import Derived.Test.YthkcghhmacbaaaaGreatDoorBfAwake
set_option linter.unusedSimpArgs false
set_option maxRecDepth 100000
set_option maxHeartbeats 4000000
set_option linter.unusedVariables false
namespace Go.Exe.Tryz
open Go Go.Exe Go.Proofs.Sc
theorem bf_s_M : bf_run (bf_ftT [kvT (xS 77) true] [bf_k1 (xS 77), bf_k2 (xS 77)]) [xS 77, xS 77] = true := by kernel_rfl
theorem bf_s_c : bf_run (bf_ftT [kvT (xS 99) true] [bf_k1 (xS 99), bf_k2 (xS 99)]) [xS 99, xS 99] = true := by kernel_rfl
theorem bf_s_s : bf_run (bf_ftT [kvT (xS 115) true] [bf_k1 (xS 115), bf_k2 (xS 115)]) [xS 115, xS 115] = true := by kernel_rfl
def bf_w_defer : List (List V) := lits2 ++ [[.int .i64 6, .str 5 491327481188, .int .i64 1, .int .i64 1, .int .i64 17], [.int .i64 2, .str 3 7630441, .int .i64 1, .int .i64 1, .int .i64 23], [.int .i64 5, .str 1 59, .int .i64 1, .int .i64 1, .int .i64 26], [.int .i64 1, .str 0 0, .int .i64 1, .int .i64 1, .int .i64 26]]
theorem bf_b_defer : bf_run (bf_ftT [kvT (.str 5 491327481188) true, kvT xA true] [bf_k1 xA, bf_k2w 25 730851062598577356638050514826532736532987606705847180419440 bf_w_defer]) [.str 5 491327481188, xA] = true := by kernel_rfl
def bf_w_range : List (List V) := lits2 ++ [[.int .i64 6, .str 5 435526984050, .int .i64 1, .int .i64 1, .int .i64 17], [.int .i64 2, .str 3 7630441, .int .i64 1, .int .i64 1, .int .i64 23], [.int .i64 5, .str 1 59, .int .i64 1, .int .i64 1, .int .i64 26], [.int .i64 1, .str 0 0, .int .i64 1, .int .i64 1, .int .i64 26]]
theorem bf_b_range : bf_run (bf_ftT [kvT (.str 5 435526984050) true, kvT xA true] [bf_k1 xA, bf_k2w 25 730851062579589431396566822223770584183169351092217273606512 bf_w_range]) [.str 5 435526984050, xA] = true := by kernel_rfl
theorem bf_a_for : bf_run (bf_ftL [kvT xN true, kvT (.str 3 7499622) true]) [xN, .str 3 7499622] = true := by kernel_rfl
theorem bf_r3 : bf_run (bf_ftL [kvT (.str 3 7630441) true, kvT xW true]) [.str 3 7630441, xW] = true := by kernel_rfl
end Go.Exe.Tryz
