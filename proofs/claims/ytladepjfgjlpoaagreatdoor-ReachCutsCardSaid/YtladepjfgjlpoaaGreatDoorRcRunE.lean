/- ReachCuts: runs, part 5 of 8. -/
import Derived.Test.YtladepjfgjlpoaaGreatDoorRcAwake
set_option maxRecDepth 100000
set_option maxHeartbeats 4000000
namespace Go.Exe.Tryz
open Go Go.Exe
def rc_l4 : List KV := [.mk (.tup [.sym 0 .i64 (8) 4, .bool false]) (.bool true), .mk (.tup [.sym 0 .i64 (8) 4, .bool true]) (.bool true)]
theorem rc_lot4 : chainX rc_ft (gl3 1 2 3) 3000 3 rc_l4 = true := by kernel_rfl
end Go.Exe.Tryz
