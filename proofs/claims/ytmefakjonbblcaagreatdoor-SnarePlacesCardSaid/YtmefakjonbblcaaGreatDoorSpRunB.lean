/- SnarePlaces: runs, part 2 of 2. -/
import Derived.Test.YtmefakjonbblcaaGreatDoorSpAwake
set_option maxRecDepth 100000
namespace Go.Exe.Tryz
open Go Go.Exe
def sp_l1 : List KV := [.mk (.tup [.sym 0 .i64 (8) 5]) (.bool true), .mk (.tup [.sym 0 .i64 (8) 6]) (.bool true), .mk (.tup [.sym 0 .i64 (8) 7]) (.bool true)]
theorem sp_lot1 : chainX sp_ft (gl3 1 2 3) 3000 5 sp_l1 = true := by kernel_rfl
end Go.Exe.Tryz
