/- BindForeign: runs, part 1 of 16. -/
import Derived.Test.YthkcghhmacbaaaaGreatDoorBfAwake
set_option linter.unusedSimpArgs false
set_option maxRecDepth 100000
set_option maxHeartbeats 4000000
set_option linter.unusedVariables false
namespace Go.Exe.Tryz
open Go Go.Exe Go.Proofs.Sc
theorem bf_s_A : bf_run (bf_ftT [kvT (xS 65) true] [bf_k1 (xS 65), bf_k2 (xS 65)]) [xS 65, xS 65] = true := by kernel_rfl
theorem bf_s_Q : bf_run (bf_ftT [kvT (xS 81) true] [bf_k1 (xS 81), bf_k2 (xS 81)]) [xS 81, xS 81] = true := by kernel_rfl
theorem bf_s_g : bf_run (bf_ftT [kvT (xS 103) true] [bf_k1 (xS 103), bf_k2 (xS 103)]) [xS 103, xS 103] = true := by kernel_rfl
theorem bf_s_w : bf_run (bf_ftT [kvT (xS 119) true] [bf_k1 (xS 119), bf_k2 (xS 119)]) [xS 119, xS 119] = true := by kernel_rfl
def bf_w_switch : List (List V) := lits2 ++ [[.int .i64 6, .str 6 114776364119923, .int .i64 1, .int .i64 1, .int .i64 17], [.int .i64 2, .str 3 7630441, .int .i64 1, .int .i64 1, .int .i64 24], [.int .i64 5, .str 1 59, .int .i64 1, .int .i64 1, .int .i64 27], [.int .i64 1, .str 0 0, .int .i64 1, .int .i64 1, .int .i64 27]]
theorem bf_b_switch : bf_run (bf_ftT [kvT (.str 6 114776364119923) true, kvT xA true] [bf_k1 xA, bf_k2w 26 187097872021491516121256215942159160235083867964029653785731440 bf_w_switch]) [.str 6 114776364119923, xA] = true := by kernel_rfl
theorem bf_a_range : bf_run (bf_ftL [kvT xN true, kvT (.str 5 435526984050) true]) [xN, .str 5 435526984050] = true := by kernel_rfl
end Go.Exe.Tryz
