/- BindRounds: runs, part 16 of 16. -/
import Derived.Test.YtbgehcnapokbmaaGreatDoorBrAwake
set_option maxRecDepth 100000
set_option maxHeartbeats 4000000
namespace Go.Exe.Tryz
open Go Go.Exe
def br_l15 : List KV := [.mk (.tup [.sym 0 .i64 (20) 8, .sym 1 .i64 (8 + 2) 8, .bool true]) (.bool true), .mk (.tup [.sym 0 .i64 (20) 8, .sym 1 .i64 (8 + 2) 9, .bool false]) (.bool true), .mk (.tup [.sym 0 .i64 (20) 8, .sym 1 .i64 (8 + 2) 9, .bool true]) (.bool true), .mk (.tup [.sym 0 .i64 (20) 9, .sym 1 .i64 (9 + 2) 0, .bool false]) (.bool true), .mk (.tup [.sym 0 .i64 (20) 9, .sym 1 .i64 (9 + 2) 0, .bool true]) (.bool true), .mk (.tup [.sym 0 .i64 (20) 9, .sym 1 .i64 (9 + 2) 1, .bool false]) (.bool true), .mk (.tup [.sym 0 .i64 (20) 9, .sym 1 .i64 (9 + 2) 1, .bool true]) (.bool true)]
theorem br_lot15 : chainX br_ft (gl3 0 2 3) 3000 3 br_l15 = true := by kernel_rfl
def br_l31 : List KV := [.mk (.tup [.sym 0 .i64 (20) 13, .sym 1 .i64 (13 + 2) 4, .bool true]) (.bool true), .mk (.tup [.sym 0 .i64 (20) 13, .sym 1 .i64 (13 + 2) 5, .bool false]) (.bool true), .mk (.tup [.sym 0 .i64 (20) 13, .sym 1 .i64 (13 + 2) 5, .bool true]) (.bool true), .mk (.tup [.sym 0 .i64 (20) 13, .sym 1 .i64 (13 + 2) 6, .bool false]) (.bool true), .mk (.tup [.sym 0 .i64 (20) 13, .sym 1 .i64 (13 + 2) 6, .bool true]) (.bool true), .mk (.tup [.sym 0 .i64 (20) 13, .sym 1 .i64 (13 + 2) 7, .bool false]) (.bool true), .mk (.tup [.sym 0 .i64 (20) 13, .sym 1 .i64 (13 + 2) 7, .bool true]) (.bool true)]
theorem br_lot31 : chainX br_ft (gl3 0 2 3) 3000 3 br_l31 = true := by kernel_rfl
def br_l47 : List KV := [.mk (.tup [.sym 0 .i64 (20) 16, .sym 1 .i64 (16 + 2) 12, .bool true]) (.bool true), .mk (.tup [.sym 0 .i64 (20) 16, .sym 1 .i64 (16 + 2) 13, .bool false]) (.bool true), .mk (.tup [.sym 0 .i64 (20) 16, .sym 1 .i64 (16 + 2) 13, .bool true]) (.bool true), .mk (.tup [.sym 0 .i64 (20) 16, .sym 1 .i64 (16 + 2) 14, .bool false]) (.bool true), .mk (.tup [.sym 0 .i64 (20) 16, .sym 1 .i64 (16 + 2) 14, .bool true]) (.bool true), .mk (.tup [.sym 0 .i64 (20) 16, .sym 1 .i64 (16 + 2) 15, .bool false]) (.bool true), .mk (.tup [.sym 0 .i64 (20) 16, .sym 1 .i64 (16 + 2) 15, .bool true]) (.bool true)]
theorem br_lot47 : chainX br_ft (gl3 0 2 3) 3000 3 br_l47 = true := by kernel_rfl
def br_l63 : List KV := [.mk (.tup [.sym 0 .i64 (20) 19, .sym 1 .i64 (19 + 2) 11, .bool true]) (.bool true), .mk (.tup [.sym 0 .i64 (20) 19, .sym 1 .i64 (19 + 2) 12, .bool false]) (.bool true), .mk (.tup [.sym 0 .i64 (20) 19, .sym 1 .i64 (19 + 2) 12, .bool true]) (.bool true), .mk (.tup [.sym 0 .i64 (20) 19, .sym 1 .i64 (19 + 2) 13, .bool false]) (.bool true), .mk (.tup [.sym 0 .i64 (20) 19, .sym 1 .i64 (19 + 2) 13, .bool true]) (.bool true), .mk (.tup [.sym 0 .i64 (20) 19, .sym 1 .i64 (19 + 2) 14, .bool false]) (.bool true), .mk (.tup [.sym 0 .i64 (20) 19, .sym 1 .i64 (19 + 2) 14, .bool true]) (.bool true)]
theorem br_lot63 : chainX br_ft (gl3 0 2 3) 3000 3 br_l63 = true := by kernel_rfl
end Go.Exe.Tryz
