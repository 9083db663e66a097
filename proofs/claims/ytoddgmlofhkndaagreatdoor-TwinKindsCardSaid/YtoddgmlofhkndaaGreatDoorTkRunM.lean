/- TwinKinds: runs, part 13 of 26. -/
import Derived.Test.YtoddgmlofhkndaaGreatDoorTkAwake
set_option linter.unusedVariables false
set_option linter.unusedSimpArgs false
set_option maxRecDepth 100000
set_option maxHeartbeats 4000000
namespace Go.Exe.Tryz
open Go Go.Exe
def tk_l12 : List KV := [.mk (.tup [.sym 0 .i64 (16) 0, .sym 1 .i64 (16) 12]) (.bool true)]
theorem tk_lot12 : chainX tk_ft (gl3 1 2 3) 3000 3 tk_l12 = true := by kernel_rfl
def tk_l38 : List KV := [.mk (.tup [.sym 0 .i64 (16) 2, .sym 1 .i64 (16) 6]) (.bool true)]
theorem tk_lot38 : chainX tk_ft (gl3 1 2 3) 3000 3 tk_l38 = true := by kernel_rfl
def tk_l64 : List KV := [.mk (.tup [.sym 0 .i64 (16) 4, .sym 1 .i64 (16) 0]) (.bool true)]
theorem tk_lot64 : chainX tk_ft (gl3 1 2 3) 3000 3 tk_l64 = true := by kernel_rfl
def tk_l90 : List KV := [.mk (.tup [.sym 0 .i64 (16) 5, .sym 1 .i64 (16) 10]) (.bool true)]
theorem tk_lot90 : chainX tk_ft (gl3 1 2 3) 3000 3 tk_l90 = true := by kernel_rfl
def tk_l116 : List KV := [.mk (.tup [.sym 0 .i64 (16) 7, .sym 1 .i64 (16) 4]) (.bool true)]
theorem tk_lot116 : chainX tk_ft (gl3 1 2 3) 3000 3 tk_l116 = true := by kernel_rfl
def tk_l142 : List KV := [.mk (.tup [.sym 0 .i64 (16) 8, .sym 1 .i64 (16) 14]) (.bool true)]
theorem tk_lot142 : chainX tk_ft (gl3 1 2 3) 3000 3 tk_l142 = true := by kernel_rfl
def tk_l168 : List KV := [.mk (.tup [.sym 0 .i64 (16) 10, .sym 1 .i64 (16) 8]) (.bool true)]
theorem tk_lot168 : chainX tk_ft (gl3 1 2 3) 3000 3 tk_l168 = true := by kernel_rfl
def tk_l194 : List KV := [.mk (.tup [.sym 0 .i64 (16) 12, .sym 1 .i64 (16) 2]) (.bool true)]
theorem tk_lot194 : chainX tk_ft (gl3 1 2 3) 3000 3 tk_l194 = true := by kernel_rfl
def tk_l220 : List KV := [.mk (.tup [.sym 0 .i64 (16) 13, .sym 1 .i64 (16) 12]) (.bool true)]
theorem tk_lot220 : chainX tk_ft (gl3 1 2 3) 3000 3 tk_l220 = true := by kernel_rfl
def tk_l246 : List KV := [.mk (.tup [.sym 0 .i64 (16) 15, .sym 1 .i64 (16) 6]) (.bool true)]
theorem tk_lot246 : chainX tk_ft (gl3 1 2 3) 3000 3 tk_l246 = true := by kernel_rfl
end Go.Exe.Tryz
