/- TwinKinds: runs, part 17 of 26. -/
import Derived.Test.YtoddgmlofhkndaaGreatDoorTkAwake
set_option linter.unusedVariables false
set_option linter.unusedSimpArgs false
set_option maxRecDepth 100000
set_option maxHeartbeats 4000000
namespace Go.Exe.Tryz
open Go Go.Exe
def tk_l16 : List KV := [.mk (.tup [.sym 0 .i64 (16) 1, .sym 1 .i64 (16) 0]) (.bool true)]
theorem tk_lot16 : chainX tk_ft (gl3 1 2 3) 3000 3 tk_l16 = true := by kernel_rfl
def tk_l42 : List KV := [.mk (.tup [.sym 0 .i64 (16) 2, .sym 1 .i64 (16) 10]) (.bool true)]
theorem tk_lot42 : chainX tk_ft (gl3 1 2 3) 3000 3 tk_l42 = true := by kernel_rfl
def tk_l68 : List KV := [.mk (.tup [.sym 0 .i64 (16) 4, .sym 1 .i64 (16) 4]) (.bool true)]
theorem tk_lot68 : chainX tk_ft (gl3 1 2 3) 3000 3 tk_l68 = true := by kernel_rfl
def tk_l94 : List KV := [.mk (.tup [.sym 0 .i64 (16) 5, .sym 1 .i64 (16) 14]) (.bool true)]
theorem tk_lot94 : chainX tk_ft (gl3 1 2 3) 3000 3 tk_l94 = true := by kernel_rfl
def tk_l120 : List KV := [.mk (.tup [.sym 0 .i64 (16) 7, .sym 1 .i64 (16) 8]) (.bool true)]
theorem tk_lot120 : chainX tk_ft (gl3 1 2 3) 3000 3 tk_l120 = true := by kernel_rfl
def tk_l146 : List KV := [.mk (.tup [.sym 0 .i64 (16) 9, .sym 1 .i64 (16) 2]) (.bool true)]
theorem tk_lot146 : chainX tk_ft (gl3 1 2 3) 3000 3 tk_l146 = true := by kernel_rfl
def tk_l172 : List KV := [.mk (.tup [.sym 0 .i64 (16) 10, .sym 1 .i64 (16) 12]) (.bool true)]
theorem tk_lot172 : chainX tk_ft (gl3 1 2 3) 3000 3 tk_l172 = true := by kernel_rfl
def tk_l198 : List KV := [.mk (.tup [.sym 0 .i64 (16) 12, .sym 1 .i64 (16) 6]) (.bool true)]
theorem tk_lot198 : chainX tk_ft (gl3 1 2 3) 3000 3 tk_l198 = true := by kernel_rfl
def tk_l224 : List KV := [.mk (.tup [.sym 0 .i64 (16) 14, .sym 1 .i64 (16) 0]) (.bool true)]
theorem tk_lot224 : chainX tk_ft (gl3 1 2 3) 3000 3 tk_l224 = true := by kernel_rfl
def tk_l250 : List KV := [.mk (.tup [.sym 0 .i64 (16) 15, .sym 1 .i64 (16) 10]) (.bool true)]
theorem tk_lot250 : chainX tk_ft (gl3 1 2 3) 3000 3 tk_l250 = true := by kernel_rfl
end Go.Exe.Tryz
