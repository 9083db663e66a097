/- BindRounds: runs, part 9 of 16. -/
import Derived.Test.YtbgehcnapokbmaaGreatDoorBrAwake
set_option maxRecDepth 100000
set_option maxHeartbeats 4000000
namespace Go.Exe.Tryz
open Go Go.Exe
def br_l8 : List KV := [.mk (.tup [.sym 0 .i64 (20) 6, .sym 1 .i64 (6 + 2) 1, .bool false]) (.bool true), .mk (.tup [.sym 0 .i64 (20) 6, .sym 1 .i64 (6 + 2) 1, .bool true]) (.bool true), .mk (.tup [.sym 0 .i64 (20) 6, .sym 1 .i64 (6 + 2) 2, .bool false]) (.bool true), .mk (.tup [.sym 0 .i64 (20) 6, .sym 1 .i64 (6 + 2) 2, .bool true]) (.bool true), .mk (.tup [.sym 0 .i64 (20) 6, .sym 1 .i64 (6 + 2) 3, .bool false]) (.bool true), .mk (.tup [.sym 0 .i64 (20) 6, .sym 1 .i64 (6 + 2) 3, .bool true]) (.bool true), .mk (.tup [.sym 0 .i64 (20) 6, .sym 1 .i64 (6 + 2) 4, .bool false]) (.bool true)]
theorem br_lot8 : chainX br_ft (gl3 0 2 3) 3000 3 br_l8 = true := by kernel_rfl
def br_l24 : List KV := [.mk (.tup [.sym 0 .i64 (20) 11, .sym 1 .i64 (11 + 2) 7, .bool false]) (.bool true), .mk (.tup [.sym 0 .i64 (20) 11, .sym 1 .i64 (11 + 2) 7, .bool true]) (.bool true), .mk (.tup [.sym 0 .i64 (20) 11, .sym 1 .i64 (11 + 2) 8, .bool false]) (.bool true), .mk (.tup [.sym 0 .i64 (20) 11, .sym 1 .i64 (11 + 2) 8, .bool true]) (.bool true), .mk (.tup [.sym 0 .i64 (20) 11, .sym 1 .i64 (11 + 2) 9, .bool false]) (.bool true), .mk (.tup [.sym 0 .i64 (20) 11, .sym 1 .i64 (11 + 2) 9, .bool true]) (.bool true), .mk (.tup [.sym 0 .i64 (20) 11, .sym 1 .i64 (11 + 2) 10, .bool false]) (.bool true)]
theorem br_lot24 : chainX br_ft (gl3 0 2 3) 3000 3 br_l24 = true := by kernel_rfl
def br_l40 : List KV := [.mk (.tup [.sym 0 .i64 (20) 15, .sym 1 .i64 (15 + 2) 5, .bool false]) (.bool true), .mk (.tup [.sym 0 .i64 (20) 15, .sym 1 .i64 (15 + 2) 5, .bool true]) (.bool true), .mk (.tup [.sym 0 .i64 (20) 15, .sym 1 .i64 (15 + 2) 6, .bool false]) (.bool true), .mk (.tup [.sym 0 .i64 (20) 15, .sym 1 .i64 (15 + 2) 6, .bool true]) (.bool true), .mk (.tup [.sym 0 .i64 (20) 15, .sym 1 .i64 (15 + 2) 7, .bool false]) (.bool true), .mk (.tup [.sym 0 .i64 (20) 15, .sym 1 .i64 (15 + 2) 7, .bool true]) (.bool true), .mk (.tup [.sym 0 .i64 (20) 15, .sym 1 .i64 (15 + 2) 8, .bool false]) (.bool true)]
theorem br_lot40 : chainX br_ft (gl3 0 2 3) 3000 3 br_l40 = true := by kernel_rfl
def br_l56 : List KV := [.mk (.tup [.sym 0 .i64 (20) 18, .sym 1 .i64 (18 + 2) 7, .bool false]) (.bool true), .mk (.tup [.sym 0 .i64 (20) 18, .sym 1 .i64 (18 + 2) 7, .bool true]) (.bool true), .mk (.tup [.sym 0 .i64 (20) 18, .sym 1 .i64 (18 + 2) 8, .bool false]) (.bool true), .mk (.tup [.sym 0 .i64 (20) 18, .sym 1 .i64 (18 + 2) 8, .bool true]) (.bool true), .mk (.tup [.sym 0 .i64 (20) 18, .sym 1 .i64 (18 + 2) 9, .bool false]) (.bool true), .mk (.tup [.sym 0 .i64 (20) 18, .sym 1 .i64 (18 + 2) 9, .bool true]) (.bool true), .mk (.tup [.sym 0 .i64 (20) 18, .sym 1 .i64 (18 + 2) 10, .bool false]) (.bool true)]
theorem br_lot56 : chainX br_ft (gl3 0 2 3) 3000 3 br_l56 = true := by kernel_rfl
end Go.Exe.Tryz
