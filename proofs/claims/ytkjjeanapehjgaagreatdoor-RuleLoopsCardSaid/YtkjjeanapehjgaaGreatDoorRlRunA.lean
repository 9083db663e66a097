/- RuleLoops: runs, part 1 of 8. -/
import Derived.Test.YtkjjeanapehjgaaGreatDoorRlAwake
set_option maxRecDepth 100000
namespace Go.Exe.Tryz
open Go Go.Exe
def rl_l0 : List KV := [.mk (.tup [.sym 0 .i64 (4) 0, .bool false, .bool false, .sym 1 .i64 (3) 0]) (.bool true), .mk (.tup [.sym 0 .i64 (4) 0, .bool false, .bool false, .sym 1 .i64 (3) 1]) (.bool true), .mk (.tup [.sym 0 .i64 (4) 0, .bool false, .bool false, .sym 1 .i64 (3) 2]) (.bool true), .mk (.tup [.sym 0 .i64 (4) 0, .bool false, .bool true, .sym 1 .i64 (3) 0]) (.bool true), .mk (.tup [.sym 0 .i64 (4) 0, .bool false, .bool true, .sym 1 .i64 (3) 1]) (.bool true), .mk (.tup [.sym 0 .i64 (4) 0, .bool false, .bool true, .sym 1 .i64 (3) 2]) (.bool true)]
theorem rl_lot0 : chainX rl_ft (gl3 0 2 3) 3000 5 rl_l0 = true := by kernel_rfl
end Go.Exe.Tryz
