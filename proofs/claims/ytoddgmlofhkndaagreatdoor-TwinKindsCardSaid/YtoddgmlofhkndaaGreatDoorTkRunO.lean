/- TwinKinds: runs, part 15 of 26. -/
import Derived.Test.YtoddgmlofhkndaaGreatDoorTkAwake
set_option linter.unusedVariables false
set_option linter.unusedSimpArgs false
set_option maxRecDepth 100000
set_option maxHeartbeats 4000000
namespace Go.Exe.Tryz
open Go Go.Exe
def tk_l14 : List KV := [.mk (.tup [.sym 0 .i64 (16) 0, .sym 1 .i64 (16) 14]) (.bool true)]
theorem tk_lot14 : chainX tk_ft (gl3 1 2 3) 3000 3 tk_l14 = true := by kernel_rfl
def tk_l40 : List KV := [.mk (.tup [.sym 0 .i64 (16) 2, .sym 1 .i64 (16) 8]) (.bool true)]
theorem tk_lot40 : chainX tk_ft (gl3 1 2 3) 3000 3 tk_l40 = true := by kernel_rfl
def tk_l66 : List KV := [.mk (.tup [.sym 0 .i64 (16) 4, .sym 1 .i64 (16) 2]) (.bool true)]
theorem tk_lot66 : chainX tk_ft (gl3 1 2 3) 3000 3 tk_l66 = true := by kernel_rfl
def tk_l92 : List KV := [.mk (.tup [.sym 0 .i64 (16) 5, .sym 1 .i64 (16) 12]) (.bool true)]
theorem tk_lot92 : chainX tk_ft (gl3 1 2 3) 3000 3 tk_l92 = true := by kernel_rfl
def tk_l118 : List KV := [.mk (.tup [.sym 0 .i64 (16) 7, .sym 1 .i64 (16) 6]) (.bool true)]
theorem tk_lot118 : chainX tk_ft (gl3 1 2 3) 3000 3 tk_l118 = true := by kernel_rfl
def tk_l144 : List KV := [.mk (.tup [.sym 0 .i64 (16) 9, .sym 1 .i64 (16) 0]) (.bool true)]
theorem tk_lot144 : chainX tk_ft (gl3 1 2 3) 3000 3 tk_l144 = true := by kernel_rfl
def tk_l170 : List KV := [.mk (.tup [.sym 0 .i64 (16) 10, .sym 1 .i64 (16) 10]) (.bool true)]
theorem tk_lot170 : chainX tk_ft (gl3 1 2 3) 3000 3 tk_l170 = true := by kernel_rfl
def tk_l196 : List KV := [.mk (.tup [.sym 0 .i64 (16) 12, .sym 1 .i64 (16) 4]) (.bool true)]
theorem tk_lot196 : chainX tk_ft (gl3 1 2 3) 3000 3 tk_l196 = true := by kernel_rfl
def tk_l222 : List KV := [.mk (.tup [.sym 0 .i64 (16) 13, .sym 1 .i64 (16) 14]) (.bool true)]
theorem tk_lot222 : chainX tk_ft (gl3 1 2 3) 3000 3 tk_l222 = true := by kernel_rfl
def tk_l248 : List KV := [.mk (.tup [.sym 0 .i64 (16) 15, .sym 1 .i64 (16) 8]) (.bool true)]
theorem tk_lot248 : chainX tk_ft (gl3 1 2 3) 3000 3 tk_l248 = true := by kernel_rfl
end Go.Exe.Tryz
