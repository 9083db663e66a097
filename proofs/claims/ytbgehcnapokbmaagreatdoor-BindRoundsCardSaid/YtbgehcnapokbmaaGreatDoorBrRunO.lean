/- BindRounds: runs, part 15 of 16. -/
import Derived.Test.YtbgehcnapokbmaaGreatDoorBrAwake
set_option maxRecDepth 100000
set_option maxHeartbeats 4000000
namespace Go.Exe.Tryz
open Go Go.Exe
def br_l14 : List KV := [.mk (.tup [.sym 0 .i64 (20) 8, .sym 1 .i64 (8 + 2) 5, .bool false]) (.bool true), .mk (.tup [.sym 0 .i64 (20) 8, .sym 1 .i64 (8 + 2) 5, .bool true]) (.bool true), .mk (.tup [.sym 0 .i64 (20) 8, .sym 1 .i64 (8 + 2) 6, .bool false]) (.bool true), .mk (.tup [.sym 0 .i64 (20) 8, .sym 1 .i64 (8 + 2) 6, .bool true]) (.bool true), .mk (.tup [.sym 0 .i64 (20) 8, .sym 1 .i64 (8 + 2) 7, .bool false]) (.bool true), .mk (.tup [.sym 0 .i64 (20) 8, .sym 1 .i64 (8 + 2) 7, .bool true]) (.bool true), .mk (.tup [.sym 0 .i64 (20) 8, .sym 1 .i64 (8 + 2) 8, .bool false]) (.bool true)]
theorem br_lot14 : chainX br_ft (gl3 0 2 3) 3000 3 br_l14 = true := by kernel_rfl
def br_l30 : List KV := [.mk (.tup [.sym 0 .i64 (20) 13, .sym 1 .i64 (13 + 2) 1, .bool false]) (.bool true), .mk (.tup [.sym 0 .i64 (20) 13, .sym 1 .i64 (13 + 2) 1, .bool true]) (.bool true), .mk (.tup [.sym 0 .i64 (20) 13, .sym 1 .i64 (13 + 2) 2, .bool false]) (.bool true), .mk (.tup [.sym 0 .i64 (20) 13, .sym 1 .i64 (13 + 2) 2, .bool true]) (.bool true), .mk (.tup [.sym 0 .i64 (20) 13, .sym 1 .i64 (13 + 2) 3, .bool false]) (.bool true), .mk (.tup [.sym 0 .i64 (20) 13, .sym 1 .i64 (13 + 2) 3, .bool true]) (.bool true), .mk (.tup [.sym 0 .i64 (20) 13, .sym 1 .i64 (13 + 2) 4, .bool false]) (.bool true)]
theorem br_lot30 : chainX br_ft (gl3 0 2 3) 3000 3 br_l30 = true := by kernel_rfl
def br_l46 : List KV := [.mk (.tup [.sym 0 .i64 (20) 16, .sym 1 .i64 (16 + 2) 9, .bool false]) (.bool true), .mk (.tup [.sym 0 .i64 (20) 16, .sym 1 .i64 (16 + 2) 9, .bool true]) (.bool true), .mk (.tup [.sym 0 .i64 (20) 16, .sym 1 .i64 (16 + 2) 10, .bool false]) (.bool true), .mk (.tup [.sym 0 .i64 (20) 16, .sym 1 .i64 (16 + 2) 10, .bool true]) (.bool true), .mk (.tup [.sym 0 .i64 (20) 16, .sym 1 .i64 (16 + 2) 11, .bool false]) (.bool true), .mk (.tup [.sym 0 .i64 (20) 16, .sym 1 .i64 (16 + 2) 11, .bool true]) (.bool true), .mk (.tup [.sym 0 .i64 (20) 16, .sym 1 .i64 (16 + 2) 12, .bool false]) (.bool true)]
theorem br_lot46 : chainX br_ft (gl3 0 2 3) 3000 3 br_l46 = true := by kernel_rfl
def br_l62 : List KV := [.mk (.tup [.sym 0 .i64 (20) 19, .sym 1 .i64 (19 + 2) 8, .bool false]) (.bool true), .mk (.tup [.sym 0 .i64 (20) 19, .sym 1 .i64 (19 + 2) 8, .bool true]) (.bool true), .mk (.tup [.sym 0 .i64 (20) 19, .sym 1 .i64 (19 + 2) 9, .bool false]) (.bool true), .mk (.tup [.sym 0 .i64 (20) 19, .sym 1 .i64 (19 + 2) 9, .bool true]) (.bool true), .mk (.tup [.sym 0 .i64 (20) 19, .sym 1 .i64 (19 + 2) 10, .bool false]) (.bool true), .mk (.tup [.sym 0 .i64 (20) 19, .sym 1 .i64 (19 + 2) 10, .bool true]) (.bool true), .mk (.tup [.sym 0 .i64 (20) 19, .sym 1 .i64 (19 + 2) 11, .bool false]) (.bool true)]
theorem br_lot62 : chainX br_ft (gl3 0 2 3) 3000 3 br_l62 = true := by kernel_rfl
end Go.Exe.Tryz
