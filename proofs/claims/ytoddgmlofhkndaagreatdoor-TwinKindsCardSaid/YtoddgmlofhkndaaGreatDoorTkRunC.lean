/- TwinKinds: runs, part 3 of 26. -/
import Derived.Test.YtoddgmlofhkndaaGreatDoorTkAwake
set_option linter.unusedVariables false
set_option linter.unusedSimpArgs false
set_option maxRecDepth 100000
set_option maxHeartbeats 4000000
namespace Go.Exe.Tryz
open Go Go.Exe
def tk_l2 : List KV := [.mk (.tup [.sym 0 .i64 (16) 0, .sym 1 .i64 (16) 2]) (.bool true)]
theorem tk_lot2 : chainX tk_ft (gl3 1 2 3) 3000 3 tk_l2 = true := by kernel_rfl
def tk_l28 : List KV := [.mk (.tup [.sym 0 .i64 (16) 1, .sym 1 .i64 (16) 12]) (.bool true)]
theorem tk_lot28 : chainX tk_ft (gl3 1 2 3) 3000 3 tk_l28 = true := by kernel_rfl
def tk_l54 : List KV := [.mk (.tup [.sym 0 .i64 (16) 3, .sym 1 .i64 (16) 6]) (.bool true)]
theorem tk_lot54 : chainX tk_ft (gl3 1 2 3) 3000 3 tk_l54 = true := by kernel_rfl
def tk_l80 : List KV := [.mk (.tup [.sym 0 .i64 (16) 5, .sym 1 .i64 (16) 0]) (.bool true)]
theorem tk_lot80 : chainX tk_ft (gl3 1 2 3) 3000 3 tk_l80 = true := by kernel_rfl
def tk_l106 : List KV := [.mk (.tup [.sym 0 .i64 (16) 6, .sym 1 .i64 (16) 10]) (.bool true)]
theorem tk_lot106 : chainX tk_ft (gl3 1 2 3) 3000 3 tk_l106 = true := by kernel_rfl
def tk_l132 : List KV := [.mk (.tup [.sym 0 .i64 (16) 8, .sym 1 .i64 (16) 4]) (.bool true)]
theorem tk_lot132 : chainX tk_ft (gl3 1 2 3) 3000 3 tk_l132 = true := by kernel_rfl
def tk_l158 : List KV := [.mk (.tup [.sym 0 .i64 (16) 9, .sym 1 .i64 (16) 14]) (.bool true)]
theorem tk_lot158 : chainX tk_ft (gl3 1 2 3) 3000 3 tk_l158 = true := by kernel_rfl
def tk_l184 : List KV := [.mk (.tup [.sym 0 .i64 (16) 11, .sym 1 .i64 (16) 8]) (.bool true)]
theorem tk_lot184 : chainX tk_ft (gl3 1 2 3) 3000 3 tk_l184 = true := by kernel_rfl
def tk_l210 : List KV := [.mk (.tup [.sym 0 .i64 (16) 13, .sym 1 .i64 (16) 2]) (.bool true)]
theorem tk_lot210 : chainX tk_ft (gl3 1 2 3) 3000 3 tk_l210 = true := by kernel_rfl
def tk_l236 : List KV := [.mk (.tup [.sym 0 .i64 (16) 14, .sym 1 .i64 (16) 12]) (.bool true)]
theorem tk_lot236 : chainX tk_ft (gl3 1 2 3) 3000 3 tk_l236 = true := by kernel_rfl
end Go.Exe.Tryz
