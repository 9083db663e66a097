/- TwinKinds: runs, part 23 of 26. -/
import Derived.Test.YtoddgmlofhkndaaGreatDoorTkAwake
set_option linter.unusedVariables false
set_option linter.unusedSimpArgs false
set_option maxRecDepth 100000
set_option maxHeartbeats 4000000
namespace Go.Exe.Tryz
open Go Go.Exe
def tk_l22 : List KV := [.mk (.tup [.sym 0 .i64 (16) 1, .sym 1 .i64 (16) 6]) (.bool true)]
theorem tk_lot22 : chainX tk_ft (gl3 1 2 3) 3000 3 tk_l22 = true := by kernel_rfl
def tk_l48 : List KV := [.mk (.tup [.sym 0 .i64 (16) 3, .sym 1 .i64 (16) 0]) (.bool true)]
theorem tk_lot48 : chainX tk_ft (gl3 1 2 3) 3000 3 tk_l48 = true := by kernel_rfl
def tk_l74 : List KV := [.mk (.tup [.sym 0 .i64 (16) 4, .sym 1 .i64 (16) 10]) (.bool true)]
theorem tk_lot74 : chainX tk_ft (gl3 1 2 3) 3000 3 tk_l74 = true := by kernel_rfl
def tk_l100 : List KV := [.mk (.tup [.sym 0 .i64 (16) 6, .sym 1 .i64 (16) 4]) (.bool true)]
theorem tk_lot100 : chainX tk_ft (gl3 1 2 3) 3000 3 tk_l100 = true := by kernel_rfl
def tk_l126 : List KV := [.mk (.tup [.sym 0 .i64 (16) 7, .sym 1 .i64 (16) 14]) (.bool true)]
theorem tk_lot126 : chainX tk_ft (gl3 1 2 3) 3000 3 tk_l126 = true := by kernel_rfl
def tk_l152 : List KV := [.mk (.tup [.sym 0 .i64 (16) 9, .sym 1 .i64 (16) 8]) (.bool true)]
theorem tk_lot152 : chainX tk_ft (gl3 1 2 3) 3000 3 tk_l152 = true := by kernel_rfl
def tk_l178 : List KV := [.mk (.tup [.sym 0 .i64 (16) 11, .sym 1 .i64 (16) 2]) (.bool true)]
theorem tk_lot178 : chainX tk_ft (gl3 1 2 3) 3000 3 tk_l178 = true := by kernel_rfl
def tk_l204 : List KV := [.mk (.tup [.sym 0 .i64 (16) 12, .sym 1 .i64 (16) 12]) (.bool true)]
theorem tk_lot204 : chainX tk_ft (gl3 1 2 3) 3000 3 tk_l204 = true := by kernel_rfl
def tk_l230 : List KV := [.mk (.tup [.sym 0 .i64 (16) 14, .sym 1 .i64 (16) 6]) (.bool true)]
theorem tk_lot230 : chainX tk_ft (gl3 1 2 3) 3000 3 tk_l230 = true := by kernel_rfl
end Go.Exe.Tryz
