/- TwinKinds: runs, part 11 of 26. -/
import Derived.Test.YtoddgmlofhkndaaGreatDoorTkAwake
set_option linter.unusedVariables false
set_option linter.unusedSimpArgs false
set_option maxRecDepth 100000
set_option maxHeartbeats 4000000
namespace Go.Exe.Tryz
open Go Go.Exe
def tk_l10 : List KV := [.mk (.tup [.sym 0 .i64 (16) 0, .sym 1 .i64 (16) 10]) (.bool true)]
theorem tk_lot10 : chainX tk_ft (gl3 1 2 3) 3000 3 tk_l10 = true := by kernel_rfl
def tk_l36 : List KV := [.mk (.tup [.sym 0 .i64 (16) 2, .sym 1 .i64 (16) 4]) (.bool true)]
theorem tk_lot36 : chainX tk_ft (gl3 1 2 3) 3000 3 tk_l36 = true := by kernel_rfl
def tk_l62 : List KV := [.mk (.tup [.sym 0 .i64 (16) 3, .sym 1 .i64 (16) 14]) (.bool true)]
theorem tk_lot62 : chainX tk_ft (gl3 1 2 3) 3000 3 tk_l62 = true := by kernel_rfl
def tk_l88 : List KV := [.mk (.tup [.sym 0 .i64 (16) 5, .sym 1 .i64 (16) 8]) (.bool true)]
theorem tk_lot88 : chainX tk_ft (gl3 1 2 3) 3000 3 tk_l88 = true := by kernel_rfl
def tk_l114 : List KV := [.mk (.tup [.sym 0 .i64 (16) 7, .sym 1 .i64 (16) 2]) (.bool true)]
theorem tk_lot114 : chainX tk_ft (gl3 1 2 3) 3000 3 tk_l114 = true := by kernel_rfl
def tk_l140 : List KV := [.mk (.tup [.sym 0 .i64 (16) 8, .sym 1 .i64 (16) 12]) (.bool true)]
theorem tk_lot140 : chainX tk_ft (gl3 1 2 3) 3000 3 tk_l140 = true := by kernel_rfl
def tk_l166 : List KV := [.mk (.tup [.sym 0 .i64 (16) 10, .sym 1 .i64 (16) 6]) (.bool true)]
theorem tk_lot166 : chainX tk_ft (gl3 1 2 3) 3000 3 tk_l166 = true := by kernel_rfl
def tk_l192 : List KV := [.mk (.tup [.sym 0 .i64 (16) 12, .sym 1 .i64 (16) 0]) (.bool true)]
theorem tk_lot192 : chainX tk_ft (gl3 1 2 3) 3000 3 tk_l192 = true := by kernel_rfl
def tk_l218 : List KV := [.mk (.tup [.sym 0 .i64 (16) 13, .sym 1 .i64 (16) 10]) (.bool true)]
theorem tk_lot218 : chainX tk_ft (gl3 1 2 3) 3000 3 tk_l218 = true := by kernel_rfl
def tk_l244 : List KV := [.mk (.tup [.sym 0 .i64 (16) 15, .sym 1 .i64 (16) 4]) (.bool true)]
theorem tk_lot244 : chainX tk_ft (gl3 1 2 3) 3000 3 tk_l244 = true := by kernel_rfl
end Go.Exe.Tryz
