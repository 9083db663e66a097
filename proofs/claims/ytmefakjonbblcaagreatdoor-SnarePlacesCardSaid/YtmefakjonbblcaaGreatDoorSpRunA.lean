/- SnarePlaces: runs, part 1 of 2. -/
import Derived.Test.YtmefakjonbblcaaGreatDoorSpAwake
set_option maxRecDepth 100000
namespace Go.Exe.Tryz
open Go Go.Exe
def sp_l0 : List KV := [.mk (.tup [.sym 0 .i64 (8) 0]) (.bool true), .mk (.tup [.sym 0 .i64 (8) 1]) (.bool true), .mk (.tup [.sym 0 .i64 (8) 2]) (.bool true), .mk (.tup [.sym 0 .i64 (8) 3]) (.bool true), .mk (.tup [.sym 0 .i64 (8) 4]) (.bool true)]
theorem sp_lot0 : chainX sp_ft (gl3 1 2 3) 3000 5 sp_l0 = true := by kernel_rfl
end Go.Exe.Tryz
