/- BindRounds: runs, part 4 of 16. -/
import Derived.Test.YtbgehcnapokbmaaGreatDoorBrAwake
set_option maxRecDepth 100000
set_option maxHeartbeats 4000000
namespace Go.Exe.Tryz
open Go Go.Exe
def br_l3 : List KV := [.mk (.tup [.sym 0 .i64 (20) 3, .sym 1 .i64 (3 + 2) 1, .bool true]) (.bool true), .mk (.tup [.sym 0 .i64 (20) 3, .sym 1 .i64 (3 + 2) 2, .bool false]) (.bool true), .mk (.tup [.sym 0 .i64 (20) 3, .sym 1 .i64 (3 + 2) 2, .bool true]) (.bool true), .mk (.tup [.sym 0 .i64 (20) 3, .sym 1 .i64 (3 + 2) 3, .bool false]) (.bool true), .mk (.tup [.sym 0 .i64 (20) 3, .sym 1 .i64 (3 + 2) 3, .bool true]) (.bool true), .mk (.tup [.sym 0 .i64 (20) 3, .sym 1 .i64 (3 + 2) 4, .bool false]) (.bool true), .mk (.tup [.sym 0 .i64 (20) 3, .sym 1 .i64 (3 + 2) 4, .bool true]) (.bool true)]
theorem br_lot3 : chainX br_ft (gl3 0 2 3) 3000 3 br_l3 = true := by kernel_rfl
def br_l19 : List KV := [.mk (.tup [.sym 0 .i64 (20) 10, .sym 1 .i64 (10 + 2) 1, .bool true]) (.bool true), .mk (.tup [.sym 0 .i64 (20) 10, .sym 1 .i64 (10 + 2) 2, .bool false]) (.bool true), .mk (.tup [.sym 0 .i64 (20) 10, .sym 1 .i64 (10 + 2) 2, .bool true]) (.bool true), .mk (.tup [.sym 0 .i64 (20) 10, .sym 1 .i64 (10 + 2) 3, .bool false]) (.bool true), .mk (.tup [.sym 0 .i64 (20) 10, .sym 1 .i64 (10 + 2) 3, .bool true]) (.bool true), .mk (.tup [.sym 0 .i64 (20) 10, .sym 1 .i64 (10 + 2) 4, .bool false]) (.bool true), .mk (.tup [.sym 0 .i64 (20) 10, .sym 1 .i64 (10 + 2) 4, .bool true]) (.bool true)]
theorem br_lot19 : chainX br_ft (gl3 0 2 3) 3000 3 br_l19 = true := by kernel_rfl
def br_l35 : List KV := [.mk (.tup [.sym 0 .i64 (20) 14, .sym 1 .i64 (14 + 2) 3, .bool true]) (.bool true), .mk (.tup [.sym 0 .i64 (20) 14, .sym 1 .i64 (14 + 2) 4, .bool false]) (.bool true), .mk (.tup [.sym 0 .i64 (20) 14, .sym 1 .i64 (14 + 2) 4, .bool true]) (.bool true), .mk (.tup [.sym 0 .i64 (20) 14, .sym 1 .i64 (14 + 2) 5, .bool false]) (.bool true), .mk (.tup [.sym 0 .i64 (20) 14, .sym 1 .i64 (14 + 2) 5, .bool true]) (.bool true), .mk (.tup [.sym 0 .i64 (20) 14, .sym 1 .i64 (14 + 2) 6, .bool false]) (.bool true), .mk (.tup [.sym 0 .i64 (20) 14, .sym 1 .i64 (14 + 2) 6, .bool true]) (.bool true)]
theorem br_lot35 : chainX br_ft (gl3 0 2 3) 3000 3 br_l35 = true := by kernel_rfl
def br_l51 : List KV := [.mk (.tup [.sym 0 .i64 (20) 17, .sym 1 .i64 (17 + 2) 8, .bool true]) (.bool true), .mk (.tup [.sym 0 .i64 (20) 17, .sym 1 .i64 (17 + 2) 9, .bool false]) (.bool true), .mk (.tup [.sym 0 .i64 (20) 17, .sym 1 .i64 (17 + 2) 9, .bool true]) (.bool true), .mk (.tup [.sym 0 .i64 (20) 17, .sym 1 .i64 (17 + 2) 10, .bool false]) (.bool true), .mk (.tup [.sym 0 .i64 (20) 17, .sym 1 .i64 (17 + 2) 10, .bool true]) (.bool true), .mk (.tup [.sym 0 .i64 (20) 17, .sym 1 .i64 (17 + 2) 11, .bool false]) (.bool true), .mk (.tup [.sym 0 .i64 (20) 17, .sym 1 .i64 (17 + 2) 11, .bool true]) (.bool true)]
theorem br_lot51 : chainX br_ft (gl3 0 2 3) 3000 3 br_l51 = true := by kernel_rfl
end Go.Exe.Tryz
