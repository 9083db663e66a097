/- BindForeign: runs, part 9 of 16. -/
import Derived.Test.YthkcghhmacbaaaaGreatDoorBfAwake
set_option linter.unusedSimpArgs false
set_option maxRecDepth 100000
set_option maxHeartbeats 4000000
set_option linter.unusedVariables false
namespace Go.Exe.Tryz
open Go Go.Exe Go.Proofs.Sc
theorem bf_s_I : bf_run (bf_ftT [kvT (xS 73) true] [bf_k1 (xS 73), bf_k2 (xS 73)]) [xS 73, xS 73] = true := by kernel_rfl
theorem bf_s_Y : bf_run (bf_ftT [kvT (xS 89) true] [bf_k1 (xS 89), bf_k2 (xS 89)]) [xS 89, xS 89] = true := by kernel_rfl
theorem bf_s_o : bf_run (bf_ftT [kvT (xS 111) true] [bf_k1 (xS 111), bf_k2 (xS 111)]) [xS 111, xS 111] = true := by kernel_rfl
def bf_w_chan : List (List V) := lits2 ++ [[.int .i64 6, .str 4 1851877475, .int .i64 1, .int .i64 1, .int .i64 17], [.int .i64 2, .str 3 7630441, .int .i64 1, .int .i64 1, .int .i64 22], [.int .i64 5, .str 1 59, .int .i64 1, .int .i64 1, .int .i64 25], [.int .i64 1, .str 0 0, .int .i64 1, .int .i64 1, .int .i64 25]]
theorem bf_b_chan : bf_run (bf_ftT [kvT (.str 4 1851877475) true, kvT xA true] [bf_k1 xA, bf_k2w 24 2854886963252767806757273461218036030240661161273846882672 bf_w_chan]) [.str 4 1851877475, xA] = true := by kernel_rfl
def bf_w_goto : List (List V) := lits2 ++ [[.int .i64 6, .str 4 1869901671, .int .i64 1, .int .i64 1, .int .i64 17], [.int .i64 2, .str 3 7630441, .int .i64 1, .int .i64 1, .int .i64 22], [.int .i64 5, .str 1 59, .int .i64 1, .int .i64 1, .int .i64 25], [.int .i64 1, .str 0 0, .int .i64 1, .int .i64 1, .int .i64 25]]
theorem bf_b_goto : bf_run (bf_ftT [kvT (.str 4 1869901671) true, kvT xA true] [bf_k1 xA, bf_k2w 24 2854886963258901122834000372587438732986434408143699272048 bf_w_goto]) [.str 4 1869901671, xA] = true := by kernel_rfl
theorem bf_a_default : bf_run (bf_ftL [kvT xN true, kvT (.str 7 32770348699510116) true]) [xN, .str 7 32770348699510116] = true := by kernel_rfl
theorem bf_a_type : bf_run (bf_ftL [kvT xN true, kvT (.str 4 1701869940) true]) [xN, .str 4 1701869940] = true := by kernel_rfl
end Go.Exe.Tryz
