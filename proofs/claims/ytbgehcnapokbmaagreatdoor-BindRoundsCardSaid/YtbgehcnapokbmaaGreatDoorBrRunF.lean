/- BindRounds: runs, part 6 of 16. -/
import Derived.Test.YtbgehcnapokbmaaGreatDoorBrAwake
set_option maxRecDepth 100000
set_option maxHeartbeats 4000000
namespace Go.Exe.Tryz
open Go Go.Exe
def br_l5 : List KV := [.mk (.tup [.sym 0 .i64 (20) 4, .sym 1 .i64 (4 + 2) 3, .bool true]) (.bool true), .mk (.tup [.sym 0 .i64 (20) 4, .sym 1 .i64 (4 + 2) 4, .bool false]) (.bool true), .mk (.tup [.sym 0 .i64 (20) 4, .sym 1 .i64 (4 + 2) 4, .bool true]) (.bool true), .mk (.tup [.sym 0 .i64 (20) 4, .sym 1 .i64 (4 + 2) 5, .bool false]) (.bool true), .mk (.tup [.sym 0 .i64 (20) 4, .sym 1 .i64 (4 + 2) 5, .bool true]) (.bool true), .mk (.tup [.sym 0 .i64 (20) 5, .sym 1 .i64 (5 + 2) 0, .bool false]) (.bool true), .mk (.tup [.sym 0 .i64 (20) 5, .sym 1 .i64 (5 + 2) 0, .bool true]) (.bool true)]
theorem br_lot5 : chainX br_ft (gl3 0 2 3) 3000 3 br_l5 = true := by kernel_rfl
def br_l21 : List KV := [.mk (.tup [.sym 0 .i64 (20) 10, .sym 1 .i64 (10 + 2) 8, .bool true]) (.bool true), .mk (.tup [.sym 0 .i64 (20) 10, .sym 1 .i64 (10 + 2) 9, .bool false]) (.bool true), .mk (.tup [.sym 0 .i64 (20) 10, .sym 1 .i64 (10 + 2) 9, .bool true]) (.bool true), .mk (.tup [.sym 0 .i64 (20) 10, .sym 1 .i64 (10 + 2) 10, .bool false]) (.bool true), .mk (.tup [.sym 0 .i64 (20) 10, .sym 1 .i64 (10 + 2) 10, .bool true]) (.bool true), .mk (.tup [.sym 0 .i64 (20) 10, .sym 1 .i64 (10 + 2) 11, .bool false]) (.bool true), .mk (.tup [.sym 0 .i64 (20) 10, .sym 1 .i64 (10 + 2) 11, .bool true]) (.bool true)]
theorem br_lot21 : chainX br_ft (gl3 0 2 3) 3000 3 br_l21 = true := by kernel_rfl
def br_l37 : List KV := [.mk (.tup [.sym 0 .i64 (20) 14, .sym 1 .i64 (14 + 2) 10, .bool true]) (.bool true), .mk (.tup [.sym 0 .i64 (20) 14, .sym 1 .i64 (14 + 2) 11, .bool false]) (.bool true), .mk (.tup [.sym 0 .i64 (20) 14, .sym 1 .i64 (14 + 2) 11, .bool true]) (.bool true), .mk (.tup [.sym 0 .i64 (20) 14, .sym 1 .i64 (14 + 2) 12, .bool false]) (.bool true), .mk (.tup [.sym 0 .i64 (20) 14, .sym 1 .i64 (14 + 2) 12, .bool true]) (.bool true), .mk (.tup [.sym 0 .i64 (20) 14, .sym 1 .i64 (14 + 2) 13, .bool false]) (.bool true), .mk (.tup [.sym 0 .i64 (20) 14, .sym 1 .i64 (14 + 2) 13, .bool true]) (.bool true)]
theorem br_lot37 : chainX br_ft (gl3 0 2 3) 3000 3 br_l37 = true := by kernel_rfl
def br_l53 : List KV := [.mk (.tup [.sym 0 .i64 (20) 17, .sym 1 .i64 (17 + 2) 15, .bool true]) (.bool true), .mk (.tup [.sym 0 .i64 (20) 17, .sym 1 .i64 (17 + 2) 16, .bool false]) (.bool true), .mk (.tup [.sym 0 .i64 (20) 17, .sym 1 .i64 (17 + 2) 16, .bool true]) (.bool true), .mk (.tup [.sym 0 .i64 (20) 17, .sym 1 .i64 (17 + 2) 17, .bool false]) (.bool true), .mk (.tup [.sym 0 .i64 (20) 17, .sym 1 .i64 (17 + 2) 17, .bool true]) (.bool true), .mk (.tup [.sym 0 .i64 (20) 17, .sym 1 .i64 (17 + 2) 18, .bool false]) (.bool true), .mk (.tup [.sym 0 .i64 (20) 17, .sym 1 .i64 (17 + 2) 18, .bool true]) (.bool true)]
theorem br_lot53 : chainX br_ft (gl3 0 2 3) 3000 3 br_l53 = true := by kernel_rfl
end Go.Exe.Tryz
