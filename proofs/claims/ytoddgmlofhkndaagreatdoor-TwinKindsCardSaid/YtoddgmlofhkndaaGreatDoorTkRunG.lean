/- TwinKinds: runs, part 7 of 26. -/
import Derived.Test.YtoddgmlofhkndaaGreatDoorTkAwake
set_option linter.unusedVariables false
set_option linter.unusedSimpArgs false
set_option maxRecDepth 100000
set_option maxHeartbeats 4000000
namespace Go.Exe.Tryz
open Go Go.Exe
def tk_l6 : List KV := [.mk (.tup [.sym 0 .i64 (16) 0, .sym 1 .i64 (16) 6]) (.bool true)]
theorem tk_lot6 : chainX tk_ft (gl3 1 2 3) 3000 3 tk_l6 = true := by kernel_rfl
def tk_l32 : List KV := [.mk (.tup [.sym 0 .i64 (16) 2, .sym 1 .i64 (16) 0]) (.bool true)]
theorem tk_lot32 : chainX tk_ft (gl3 1 2 3) 3000 3 tk_l32 = true := by kernel_rfl
def tk_l58 : List KV := [.mk (.tup [.sym 0 .i64 (16) 3, .sym 1 .i64 (16) 10]) (.bool true)]
theorem tk_lot58 : chainX tk_ft (gl3 1 2 3) 3000 3 tk_l58 = true := by kernel_rfl
def tk_l84 : List KV := [.mk (.tup [.sym 0 .i64 (16) 5, .sym 1 .i64 (16) 4]) (.bool true)]
theorem tk_lot84 : chainX tk_ft (gl3 1 2 3) 3000 3 tk_l84 = true := by kernel_rfl
def tk_l110 : List KV := [.mk (.tup [.sym 0 .i64 (16) 6, .sym 1 .i64 (16) 14]) (.bool true)]
theorem tk_lot110 : chainX tk_ft (gl3 1 2 3) 3000 3 tk_l110 = true := by kernel_rfl
def tk_l136 : List KV := [.mk (.tup [.sym 0 .i64 (16) 8, .sym 1 .i64 (16) 8]) (.bool true)]
theorem tk_lot136 : chainX tk_ft (gl3 1 2 3) 3000 3 tk_l136 = true := by kernel_rfl
def tk_l162 : List KV := [.mk (.tup [.sym 0 .i64 (16) 10, .sym 1 .i64 (16) 2]) (.bool true)]
theorem tk_lot162 : chainX tk_ft (gl3 1 2 3) 3000 3 tk_l162 = true := by kernel_rfl
def tk_l188 : List KV := [.mk (.tup [.sym 0 .i64 (16) 11, .sym 1 .i64 (16) 12]) (.bool true)]
theorem tk_lot188 : chainX tk_ft (gl3 1 2 3) 3000 3 tk_l188 = true := by kernel_rfl
def tk_l214 : List KV := [.mk (.tup [.sym 0 .i64 (16) 13, .sym 1 .i64 (16) 6]) (.bool true)]
theorem tk_lot214 : chainX tk_ft (gl3 1 2 3) 3000 3 tk_l214 = true := by kernel_rfl
def tk_l240 : List KV := [.mk (.tup [.sym 0 .i64 (16) 15, .sym 1 .i64 (16) 0]) (.bool true)]
theorem tk_lot240 : chainX tk_ft (gl3 1 2 3) 3000 3 tk_l240 = true := by kernel_rfl
end Go.Exe.Tryz
