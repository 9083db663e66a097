/- BindForeign: runs, part 14 of 16. -/
import Derived.Test.YthkcghhmacbaaaaGreatDoorBfAwake
set_option linter.unusedSimpArgs false
set_option maxRecDepth 100000
set_option maxHeartbeats 4000000
set_option linter.unusedVariables false
namespace Go.Exe.Tryz
open Go Go.Exe Go.Proofs.Sc
theorem bf_s_N : bf_run (bf_ftT [kvT (xS 78) true] [bf_k1 (xS 78), bf_k2 (xS 78)]) [xS 78, xS 78] = true := by kernel_rfl
theorem bf_s_d : bf_run (bf_ftT [kvT (xS 100) true] [bf_k1 (xS 100), bf_k2 (xS 100)]) [xS 100, xS 100] = true := by kernel_rfl
theorem bf_s_t : bf_run (bf_ftT [kvT (xS 116) true] [bf_k1 (xS 116), bf_k2 (xS 116)]) [xS 116, xS 116] = true := by kernel_rfl
def bf_w_else : List (List V) := lits2 ++ [[.int .i64 6, .str 4 1702063205, .int .i64 1, .int .i64 1, .int .i64 17], [.int .i64 2, .str 3 7630441, .int .i64 1, .int .i64 1, .int .i64 22], [.int .i64 5, .str 1 59, .int .i64 1, .int .i64 1, .int .i64 25], [.int .i64 1, .str 0 0, .int .i64 1, .int .i64 1, .int .i64 25]]
theorem bf_b_else : bf_run (bf_ftT [kvT (.str 4 1702063205) true, kvT xA true] [bf_k1 xA, bf_k2w 24 2854886963201788652363140917599348891691734231865360605552 bf_w_else]) [.str 4 1702063205, xA] = true := by kernel_rfl
def bf_w_return : List (List V) := lits2 ++ [[.int .i64 6, .str 6 121437875889522, .int .i64 1, .int .i64 1, .int .i64 17], [.int .i64 2, .str 3 7630441, .int .i64 1, .int .i64 1, .int .i64 24], [.int .i64 5, .str 1 59, .int .i64 1, .int .i64 1, .int .i64 27], [.int .i64 1, .str 0 0, .int .i64 1, .int .i64 1, .int .i64 27]]
theorem bf_b_return : bf_run (bf_ftT [kvT (.str 6 121437875889522) true, kvT xA true] [bf_k1 xA, bf_k2w 26 187097872023758311113487052946830848822560908158975507570057584 bf_w_return]) [.str 6 121437875889522, xA] = true := by kernel_rfl
theorem bf_a_func : bf_run (bf_ftL [kvT xN true, kvT (.str 4 1668183398) true]) [xN, .str 4 1668183398] = true := by kernel_rfl
end Go.Exe.Tryz
