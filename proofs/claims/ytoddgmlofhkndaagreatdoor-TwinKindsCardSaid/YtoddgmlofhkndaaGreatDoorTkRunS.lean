/- TwinKinds: runs, part 19 of 26. -/
import Derived.Test.YtoddgmlofhkndaaGreatDoorTkAwake
set_option linter.unusedVariables false
set_option linter.unusedSimpArgs false
set_option maxRecDepth 100000
set_option maxHeartbeats 4000000
namespace Go.Exe.Tryz
open Go Go.Exe
def tk_l18 : List KV := [.mk (.tup [.sym 0 .i64 (16) 1, .sym 1 .i64 (16) 2]) (.bool true)]
theorem tk_lot18 : chainX tk_ft (gl3 1 2 3) 3000 3 tk_l18 = true := by kernel_rfl
def tk_l44 : List KV := [.mk (.tup [.sym 0 .i64 (16) 2, .sym 1 .i64 (16) 12]) (.bool true)]
theorem tk_lot44 : chainX tk_ft (gl3 1 2 3) 3000 3 tk_l44 = true := by kernel_rfl
def tk_l70 : List KV := [.mk (.tup [.sym 0 .i64 (16) 4, .sym 1 .i64 (16) 6]) (.bool true)]
theorem tk_lot70 : chainX tk_ft (gl3 1 2 3) 3000 3 tk_l70 = true := by kernel_rfl
def tk_l96 : List KV := [.mk (.tup [.sym 0 .i64 (16) 6, .sym 1 .i64 (16) 0]) (.bool true)]
theorem tk_lot96 : chainX tk_ft (gl3 1 2 3) 3000 3 tk_l96 = true := by kernel_rfl
def tk_l122 : List KV := [.mk (.tup [.sym 0 .i64 (16) 7, .sym 1 .i64 (16) 10]) (.bool true)]
theorem tk_lot122 : chainX tk_ft (gl3 1 2 3) 3000 3 tk_l122 = true := by kernel_rfl
def tk_l148 : List KV := [.mk (.tup [.sym 0 .i64 (16) 9, .sym 1 .i64 (16) 4]) (.bool true)]
theorem tk_lot148 : chainX tk_ft (gl3 1 2 3) 3000 3 tk_l148 = true := by kernel_rfl
def tk_l174 : List KV := [.mk (.tup [.sym 0 .i64 (16) 10, .sym 1 .i64 (16) 14]) (.bool true)]
theorem tk_lot174 : chainX tk_ft (gl3 1 2 3) 3000 3 tk_l174 = true := by kernel_rfl
def tk_l200 : List KV := [.mk (.tup [.sym 0 .i64 (16) 12, .sym 1 .i64 (16) 8]) (.bool true)]
theorem tk_lot200 : chainX tk_ft (gl3 1 2 3) 3000 3 tk_l200 = true := by kernel_rfl
def tk_l226 : List KV := [.mk (.tup [.sym 0 .i64 (16) 14, .sym 1 .i64 (16) 2]) (.bool true)]
theorem tk_lot226 : chainX tk_ft (gl3 1 2 3) 3000 3 tk_l226 = true := by kernel_rfl
def tk_l252 : List KV := [.mk (.tup [.sym 0 .i64 (16) 15, .sym 1 .i64 (16) 12]) (.bool true)]
theorem tk_lot252 : chainX tk_ft (gl3 1 2 3) 3000 3 tk_l252 = true := by kernel_rfl
end Go.Exe.Tryz
