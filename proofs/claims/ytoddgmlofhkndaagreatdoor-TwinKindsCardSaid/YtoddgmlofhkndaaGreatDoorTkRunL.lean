/- TwinKinds: runs, part 12 of 26. -/
import Derived.Test.YtoddgmlofhkndaaGreatDoorTkAwake
set_option linter.unusedVariables false
set_option linter.unusedSimpArgs false
set_option maxRecDepth 100000
set_option maxHeartbeats 4000000
namespace Go.Exe.Tryz
open Go Go.Exe
def tk_l11 : List KV := [.mk (.tup [.sym 0 .i64 (16) 0, .sym 1 .i64 (16) 11]) (.bool true)]
theorem tk_lot11 : chainX tk_ft (gl3 1 2 3) 3000 3 tk_l11 = true := by kernel_rfl
def tk_l37 : List KV := [.mk (.tup [.sym 0 .i64 (16) 2, .sym 1 .i64 (16) 5]) (.bool true)]
theorem tk_lot37 : chainX tk_ft (gl3 1 2 3) 3000 3 tk_l37 = true := by kernel_rfl
def tk_l63 : List KV := [.mk (.tup [.sym 0 .i64 (16) 3, .sym 1 .i64 (16) 15]) (.bool true)]
theorem tk_lot63 : chainX tk_ft (gl3 1 2 3) 3000 3 tk_l63 = true := by kernel_rfl
def tk_l89 : List KV := [.mk (.tup [.sym 0 .i64 (16) 5, .sym 1 .i64 (16) 9]) (.bool true)]
theorem tk_lot89 : chainX tk_ft (gl3 1 2 3) 3000 3 tk_l89 = true := by kernel_rfl
def tk_l115 : List KV := [.mk (.tup [.sym 0 .i64 (16) 7, .sym 1 .i64 (16) 3]) (.bool true)]
theorem tk_lot115 : chainX tk_ft (gl3 1 2 3) 3000 3 tk_l115 = true := by kernel_rfl
def tk_l141 : List KV := [.mk (.tup [.sym 0 .i64 (16) 8, .sym 1 .i64 (16) 13]) (.bool true)]
theorem tk_lot141 : chainX tk_ft (gl3 1 2 3) 3000 3 tk_l141 = true := by kernel_rfl
def tk_l167 : List KV := [.mk (.tup [.sym 0 .i64 (16) 10, .sym 1 .i64 (16) 7]) (.bool true)]
theorem tk_lot167 : chainX tk_ft (gl3 1 2 3) 3000 3 tk_l167 = true := by kernel_rfl
def tk_l193 : List KV := [.mk (.tup [.sym 0 .i64 (16) 12, .sym 1 .i64 (16) 1]) (.bool true)]
theorem tk_lot193 : chainX tk_ft (gl3 1 2 3) 3000 3 tk_l193 = true := by kernel_rfl
def tk_l219 : List KV := [.mk (.tup [.sym 0 .i64 (16) 13, .sym 1 .i64 (16) 11]) (.bool true)]
theorem tk_lot219 : chainX tk_ft (gl3 1 2 3) 3000 3 tk_l219 = true := by kernel_rfl
def tk_l245 : List KV := [.mk (.tup [.sym 0 .i64 (16) 15, .sym 1 .i64 (16) 5]) (.bool true)]
theorem tk_lot245 : chainX tk_ft (gl3 1 2 3) 3000 3 tk_l245 = true := by kernel_rfl
end Go.Exe.Tryz
