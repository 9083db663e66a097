/- BindRounds: runs, part 3 of 16. -/
import Derived.Test.YtbgehcnapokbmaaGreatDoorBrAwake
set_option maxRecDepth 100000
set_option maxHeartbeats 4000000
namespace Go.Exe.Tryz
open Go Go.Exe
def br_l2 : List KV := [.mk (.tup [.sym 0 .i64 (20) 2, .sym 1 .i64 (2 + 2) 2, .bool false]) (.bool true), .mk (.tup [.sym 0 .i64 (20) 2, .sym 1 .i64 (2 + 2) 2, .bool true]) (.bool true), .mk (.tup [.sym 0 .i64 (20) 2, .sym 1 .i64 (2 + 2) 3, .bool false]) (.bool true), .mk (.tup [.sym 0 .i64 (20) 2, .sym 1 .i64 (2 + 2) 3, .bool true]) (.bool true), .mk (.tup [.sym 0 .i64 (20) 3, .sym 1 .i64 (3 + 2) 0, .bool false]) (.bool true), .mk (.tup [.sym 0 .i64 (20) 3, .sym 1 .i64 (3 + 2) 0, .bool true]) (.bool true), .mk (.tup [.sym 0 .i64 (20) 3, .sym 1 .i64 (3 + 2) 1, .bool false]) (.bool true)]
theorem br_lot2 : chainX br_ft (gl3 0 2 3) 3000 3 br_l2 = true := by kernel_rfl
def br_l18 : List KV := [.mk (.tup [.sym 0 .i64 (20) 9, .sym 1 .i64 (9 + 2) 9, .bool false]) (.bool true), .mk (.tup [.sym 0 .i64 (20) 9, .sym 1 .i64 (9 + 2) 9, .bool true]) (.bool true), .mk (.tup [.sym 0 .i64 (20) 9, .sym 1 .i64 (9 + 2) 10, .bool false]) (.bool true), .mk (.tup [.sym 0 .i64 (20) 9, .sym 1 .i64 (9 + 2) 10, .bool true]) (.bool true), .mk (.tup [.sym 0 .i64 (20) 10, .sym 1 .i64 (10 + 2) 0, .bool false]) (.bool true), .mk (.tup [.sym 0 .i64 (20) 10, .sym 1 .i64 (10 + 2) 0, .bool true]) (.bool true), .mk (.tup [.sym 0 .i64 (20) 10, .sym 1 .i64 (10 + 2) 1, .bool false]) (.bool true)]
theorem br_lot18 : chainX br_ft (gl3 0 2 3) 3000 3 br_l18 = true := by kernel_rfl
def br_l34 : List KV := [.mk (.tup [.sym 0 .i64 (20) 14, .sym 1 .i64 (14 + 2) 0, .bool false]) (.bool true), .mk (.tup [.sym 0 .i64 (20) 14, .sym 1 .i64 (14 + 2) 0, .bool true]) (.bool true), .mk (.tup [.sym 0 .i64 (20) 14, .sym 1 .i64 (14 + 2) 1, .bool false]) (.bool true), .mk (.tup [.sym 0 .i64 (20) 14, .sym 1 .i64 (14 + 2) 1, .bool true]) (.bool true), .mk (.tup [.sym 0 .i64 (20) 14, .sym 1 .i64 (14 + 2) 2, .bool false]) (.bool true), .mk (.tup [.sym 0 .i64 (20) 14, .sym 1 .i64 (14 + 2) 2, .bool true]) (.bool true), .mk (.tup [.sym 0 .i64 (20) 14, .sym 1 .i64 (14 + 2) 3, .bool false]) (.bool true)]
theorem br_lot34 : chainX br_ft (gl3 0 2 3) 3000 3 br_l34 = true := by kernel_rfl
def br_l50 : List KV := [.mk (.tup [.sym 0 .i64 (20) 17, .sym 1 .i64 (17 + 2) 5, .bool false]) (.bool true), .mk (.tup [.sym 0 .i64 (20) 17, .sym 1 .i64 (17 + 2) 5, .bool true]) (.bool true), .mk (.tup [.sym 0 .i64 (20) 17, .sym 1 .i64 (17 + 2) 6, .bool false]) (.bool true), .mk (.tup [.sym 0 .i64 (20) 17, .sym 1 .i64 (17 + 2) 6, .bool true]) (.bool true), .mk (.tup [.sym 0 .i64 (20) 17, .sym 1 .i64 (17 + 2) 7, .bool false]) (.bool true), .mk (.tup [.sym 0 .i64 (20) 17, .sym 1 .i64 (17 + 2) 7, .bool true]) (.bool true), .mk (.tup [.sym 0 .i64 (20) 17, .sym 1 .i64 (17 + 2) 8, .bool false]) (.bool true)]
theorem br_lot50 : chainX br_ft (gl3 0 2 3) 3000 3 br_l50 = true := by kernel_rfl
end Go.Exe.Tryz
