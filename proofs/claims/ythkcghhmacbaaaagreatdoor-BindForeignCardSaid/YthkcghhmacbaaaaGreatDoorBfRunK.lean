/- BindForeign: runs, part 11 of 16. -/
import Derived.Test.YthkcghhmacbaaaaGreatDoorBfAwake
set_option linter.unusedSimpArgs false
set_option maxRecDepth 100000
set_option maxHeartbeats 4000000
set_option linter.unusedVariables false
namespace Go.Exe.Tryz
open Go Go.Exe Go.Proofs.Sc
theorem bf_s_K : bf_run (bf_ftT [kvT (xS 75) true] [bf_k1 (xS 75), bf_k2 (xS 75)]) [xS 75, xS 75] = true := by kernel_rfl
theorem bf_s_a : bf_run (bf_ftT [kvT (xS 97) true] [bf_k1 (xS 97), bf_k2 (xS 97)]) [xS 97, xS 97] = true := by kernel_rfl
theorem bf_s_q : bf_run (bf_ftT [kvT (xS 113) true] [bf_k1 (xS 113), bf_k2 (xS 113)]) [xS 113, xS 113] = true := by kernel_rfl
def bf_w_continue : List (List V) := lits2 ++ [[.int .i64 6, .str 8 7310870969309884259, .int .i64 1, .int .i64 1, .int .i64 17], [.int .i64 2, .str 3 7630441, .int .i64 1, .int .i64 1, .int .i64 26], [.int .i64 5, .str 1 59, .int .i64 1, .int .i64 1, .int .i64 29], [.int .i64 1, .str 0 0, .int .i64 1, .int .i64 1, .int .i64 29]]
theorem bf_b_continue : bf_run (bf_ftT [kvT (.str 8 7310870969309884259) true, kvT xA true] [bf_k1 xA, bf_k2w 28 12261646140728630027160812292528030391277330554900893162332838125936 bf_w_continue]) [.str 8 7310870969309884259, xA] = true := by kernel_rfl
def bf_w_import : List (List V) := lits2 ++ [[.int .i64 6, .str 6 128034844732777, .int .i64 1, .int .i64 1, .int .i64 17], [.int .i64 2, .str 3 7630441, .int .i64 1, .int .i64 1, .int .i64 24], [.int .i64 5, .str 1 59, .int .i64 1, .int .i64 1, .int .i64 27], [.int .i64 1, .str 0 0, .int .i64 1, .int .i64 1, .int .i64 27]]
theorem bf_b_import : bf_run (bf_ftT [kvT (.str 6 128034844732777) true, kvT xA true] [bf_k1 xA, bf_k2w 26 187097872026003143285973549838183864287608799823243676129386864 bf_w_import]) [.str 6 128034844732777, xA] = true := by kernel_rfl
theorem bf_a_else : bf_run (bf_ftL [kvT xN true, kvT (.str 4 1702063205) true]) [xN, .str 4 1702063205] = true := by kernel_rfl
theorem bf_r1 : bf_run (bf_ftL [kvT xU false]) [xU, xW] = true := by kernel_rfl
end Go.Exe.Tryz
