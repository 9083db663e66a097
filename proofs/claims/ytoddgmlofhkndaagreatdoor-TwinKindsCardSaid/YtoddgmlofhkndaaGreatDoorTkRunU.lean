/- TwinKinds: runs, part 21 of 26. -/
import Derived.Test.YtoddgmlofhkndaaGreatDoorTkAwake
set_option linter.unusedVariables false
set_option linter.unusedSimpArgs false
set_option maxRecDepth 100000
set_option maxHeartbeats 4000000
namespace Go.Exe.Tryz
open Go Go.Exe
def tk_l20 : List KV := [.mk (.tup [.sym 0 .i64 (16) 1, .sym 1 .i64 (16) 4]) (.bool true)]
theorem tk_lot20 : chainX tk_ft (gl3 1 2 3) 3000 3 tk_l20 = true := by kernel_rfl
def tk_l46 : List KV := [.mk (.tup [.sym 0 .i64 (16) 2, .sym 1 .i64 (16) 14]) (.bool true)]
theorem tk_lot46 : chainX tk_ft (gl3 1 2 3) 3000 3 tk_l46 = true := by kernel_rfl
def tk_l72 : List KV := [.mk (.tup [.sym 0 .i64 (16) 4, .sym 1 .i64 (16) 8]) (.bool true)]
theorem tk_lot72 : chainX tk_ft (gl3 1 2 3) 3000 3 tk_l72 = true := by kernel_rfl
def tk_l98 : List KV := [.mk (.tup [.sym 0 .i64 (16) 6, .sym 1 .i64 (16) 2]) (.bool true)]
theorem tk_lot98 : chainX tk_ft (gl3 1 2 3) 3000 3 tk_l98 = true := by kernel_rfl
def tk_l124 : List KV := [.mk (.tup [.sym 0 .i64 (16) 7, .sym 1 .i64 (16) 12]) (.bool true)]
theorem tk_lot124 : chainX tk_ft (gl3 1 2 3) 3000 3 tk_l124 = true := by kernel_rfl
def tk_l150 : List KV := [.mk (.tup [.sym 0 .i64 (16) 9, .sym 1 .i64 (16) 6]) (.bool true)]
theorem tk_lot150 : chainX tk_ft (gl3 1 2 3) 3000 3 tk_l150 = true := by kernel_rfl
def tk_l176 : List KV := [.mk (.tup [.sym 0 .i64 (16) 11, .sym 1 .i64 (16) 0]) (.bool true)]
theorem tk_lot176 : chainX tk_ft (gl3 1 2 3) 3000 3 tk_l176 = true := by kernel_rfl
def tk_l202 : List KV := [.mk (.tup [.sym 0 .i64 (16) 12, .sym 1 .i64 (16) 10]) (.bool true)]
theorem tk_lot202 : chainX tk_ft (gl3 1 2 3) 3000 3 tk_l202 = true := by kernel_rfl
def tk_l228 : List KV := [.mk (.tup [.sym 0 .i64 (16) 14, .sym 1 .i64 (16) 4]) (.bool true)]
theorem tk_lot228 : chainX tk_ft (gl3 1 2 3) 3000 3 tk_l228 = true := by kernel_rfl
def tk_l254 : List KV := [.mk (.tup [.sym 0 .i64 (16) 15, .sym 1 .i64 (16) 14]) (.bool true)]
theorem tk_lot254 : chainX tk_ft (gl3 1 2 3) 3000 3 tk_l254 = true := by kernel_rfl
end Go.Exe.Tryz
