/- BindRounds: runs, part 8 of 16. -/
import Derived.Test.YtbgehcnapokbmaaGreatDoorBrAwake
set_option maxRecDepth 100000
set_option maxHeartbeats 4000000
namespace Go.Exe.Tryz
open Go Go.Exe
def br_l7 : List KV := [.mk (.tup [.sym 0 .i64 (20) 5, .sym 1 .i64 (5 + 2) 4, .bool true]) (.bool true), .mk (.tup [.sym 0 .i64 (20) 5, .sym 1 .i64 (5 + 2) 5, .bool false]) (.bool true), .mk (.tup [.sym 0 .i64 (20) 5, .sym 1 .i64 (5 + 2) 5, .bool true]) (.bool true), .mk (.tup [.sym 0 .i64 (20) 5, .sym 1 .i64 (5 + 2) 6, .bool false]) (.bool true), .mk (.tup [.sym 0 .i64 (20) 5, .sym 1 .i64 (5 + 2) 6, .bool true]) (.bool true), .mk (.tup [.sym 0 .i64 (20) 6, .sym 1 .i64 (6 + 2) 0, .bool false]) (.bool true), .mk (.tup [.sym 0 .i64 (20) 6, .sym 1 .i64 (6 + 2) 0, .bool true]) (.bool true)]
theorem br_lot7 : chainX br_ft (gl3 0 2 3) 3000 3 br_l7 = true := by kernel_rfl
def br_l23 : List KV := [.mk (.tup [.sym 0 .i64 (20) 11, .sym 1 .i64 (11 + 2) 3, .bool true]) (.bool true), .mk (.tup [.sym 0 .i64 (20) 11, .sym 1 .i64 (11 + 2) 4, .bool false]) (.bool true), .mk (.tup [.sym 0 .i64 (20) 11, .sym 1 .i64 (11 + 2) 4, .bool true]) (.bool true), .mk (.tup [.sym 0 .i64 (20) 11, .sym 1 .i64 (11 + 2) 5, .bool false]) (.bool true), .mk (.tup [.sym 0 .i64 (20) 11, .sym 1 .i64 (11 + 2) 5, .bool true]) (.bool true), .mk (.tup [.sym 0 .i64 (20) 11, .sym 1 .i64 (11 + 2) 6, .bool false]) (.bool true), .mk (.tup [.sym 0 .i64 (20) 11, .sym 1 .i64 (11 + 2) 6, .bool true]) (.bool true)]
theorem br_lot23 : chainX br_ft (gl3 0 2 3) 3000 3 br_l23 = true := by kernel_rfl
def br_l39 : List KV := [.mk (.tup [.sym 0 .i64 (20) 15, .sym 1 .i64 (15 + 2) 1, .bool true]) (.bool true), .mk (.tup [.sym 0 .i64 (20) 15, .sym 1 .i64 (15 + 2) 2, .bool false]) (.bool true), .mk (.tup [.sym 0 .i64 (20) 15, .sym 1 .i64 (15 + 2) 2, .bool true]) (.bool true), .mk (.tup [.sym 0 .i64 (20) 15, .sym 1 .i64 (15 + 2) 3, .bool false]) (.bool true), .mk (.tup [.sym 0 .i64 (20) 15, .sym 1 .i64 (15 + 2) 3, .bool true]) (.bool true), .mk (.tup [.sym 0 .i64 (20) 15, .sym 1 .i64 (15 + 2) 4, .bool false]) (.bool true), .mk (.tup [.sym 0 .i64 (20) 15, .sym 1 .i64 (15 + 2) 4, .bool true]) (.bool true)]
theorem br_lot39 : chainX br_ft (gl3 0 2 3) 3000 3 br_l39 = true := by kernel_rfl
def br_l55 : List KV := [.mk (.tup [.sym 0 .i64 (20) 18, .sym 1 .i64 (18 + 2) 3, .bool true]) (.bool true), .mk (.tup [.sym 0 .i64 (20) 18, .sym 1 .i64 (18 + 2) 4, .bool false]) (.bool true), .mk (.tup [.sym 0 .i64 (20) 18, .sym 1 .i64 (18 + 2) 4, .bool true]) (.bool true), .mk (.tup [.sym 0 .i64 (20) 18, .sym 1 .i64 (18 + 2) 5, .bool false]) (.bool true), .mk (.tup [.sym 0 .i64 (20) 18, .sym 1 .i64 (18 + 2) 5, .bool true]) (.bool true), .mk (.tup [.sym 0 .i64 (20) 18, .sym 1 .i64 (18 + 2) 6, .bool false]) (.bool true), .mk (.tup [.sym 0 .i64 (20) 18, .sym 1 .i64 (18 + 2) 6, .bool true]) (.bool true)]
theorem br_lot55 : chainX br_ft (gl3 0 2 3) 3000 3 br_l55 = true := by kernel_rfl
end Go.Exe.Tryz
