/- BindForeign: runs, part 2 of 16. -/
import Derived.Test.YthkcghhmacbaaaaGreatDoorBfAwake
set_option linter.unusedSimpArgs false
set_option maxRecDepth 100000
set_option maxHeartbeats 4000000
set_option linter.unusedVariables false
namespace Go.Exe.Tryz
open Go Go.Exe Go.Proofs.Sc
theorem bf_s_B : bf_run (bf_ftT [kvT (xS 66) true] [bf_k1 (xS 66), bf_k2 (xS 66)]) [xS 66, xS 66] = true := by kernel_rfl
theorem bf_s_R : bf_run (bf_ftT [kvT (xS 82) true] [bf_k1 (xS 82), bf_k2 (xS 82)]) [xS 82, xS 82] = true := by kernel_rfl
theorem bf_s_h : bf_run (bf_ftT [kvT (xS 104) true] [bf_k1 (xS 104), bf_k2 (xS 104)]) [xS 104, xS 104] = true := by kernel_rfl
theorem bf_s_x : bf_run (bf_ftT [kvT (xS 120) true] [bf_k1 (xS 120), bf_k2 (xS 120)]) [xS 120, xS 120] = true := by kernel_rfl
def bf_w_type : List (List V) := lits2 ++ [[.int .i64 6, .str 4 1701869940, .int .i64 1, .int .i64 1, .int .i64 17], [.int .i64 2, .str 3 7630441, .int .i64 1, .int .i64 1, .int .i64 22], [.int .i64 5, .str 1 59, .int .i64 1, .int .i64 1, .int .i64 25], [.int .i64 1, .str 0 0, .int .i64 1, .int .i64 1, .int .i64 25]]
theorem bf_b_type : bf_run (bf_ftT [kvT (.str 4 1701869940) true, kvT xA true] [bf_k1 xA, bf_k2w 24 2854886963201722887691497942427207642598228931181973561712 bf_w_type]) [.str 4 1701869940, xA] = true := by kernel_rfl
theorem bf_a_return : bf_run (bf_ftL [kvT xN true, kvT (.str 6 121437875889522) true]) [xN, .str 6 121437875889522] = true := by kernel_rfl
end Go.Exe.Tryz
