/- TwinKinds: runs, part 6 of 26. -/
import Derived.Test.YtoddgmlofhkndaaGreatDoorTkAwake
set_option linter.unusedVariables false
set_option linter.unusedSimpArgs false
set_option maxRecDepth 100000
set_option maxHeartbeats 4000000
namespace Go.Exe.Tryz
open Go Go.Exe
def tk_l5 : List KV := [.mk (.tup [.sym 0 .i64 (16) 0, .sym 1 .i64 (16) 5]) (.bool true)]
theorem tk_lot5 : chainX tk_ft (gl3 1 2 3) 3000 3 tk_l5 = true := by kernel_rfl
def tk_l31 : List KV := [.mk (.tup [.sym 0 .i64 (16) 1, .sym 1 .i64 (16) 15]) (.bool true)]
theorem tk_lot31 : chainX tk_ft (gl3 1 2 3) 3000 3 tk_l31 = true := by kernel_rfl
def tk_l57 : List KV := [.mk (.tup [.sym 0 .i64 (16) 3, .sym 1 .i64 (16) 9]) (.bool true)]
theorem tk_lot57 : chainX tk_ft (gl3 1 2 3) 3000 3 tk_l57 = true := by kernel_rfl
def tk_l83 : List KV := [.mk (.tup [.sym 0 .i64 (16) 5, .sym 1 .i64 (16) 3]) (.bool true)]
theorem tk_lot83 : chainX tk_ft (gl3 1 2 3) 3000 3 tk_l83 = true := by kernel_rfl
def tk_l109 : List KV := [.mk (.tup [.sym 0 .i64 (16) 6, .sym 1 .i64 (16) 13]) (.bool true)]
theorem tk_lot109 : chainX tk_ft (gl3 1 2 3) 3000 3 tk_l109 = true := by kernel_rfl
def tk_l135 : List KV := [.mk (.tup [.sym 0 .i64 (16) 8, .sym 1 .i64 (16) 7]) (.bool true)]
theorem tk_lot135 : chainX tk_ft (gl3 1 2 3) 3000 3 tk_l135 = true := by kernel_rfl
def tk_l161 : List KV := [.mk (.tup [.sym 0 .i64 (16) 10, .sym 1 .i64 (16) 1]) (.bool true)]
theorem tk_lot161 : chainX tk_ft (gl3 1 2 3) 3000 3 tk_l161 = true := by kernel_rfl
def tk_l187 : List KV := [.mk (.tup [.sym 0 .i64 (16) 11, .sym 1 .i64 (16) 11]) (.bool true)]
theorem tk_lot187 : chainX tk_ft (gl3 1 2 3) 3000 3 tk_l187 = true := by kernel_rfl
def tk_l213 : List KV := [.mk (.tup [.sym 0 .i64 (16) 13, .sym 1 .i64 (16) 5]) (.bool true)]
theorem tk_lot213 : chainX tk_ft (gl3 1 2 3) 3000 3 tk_l213 = true := by kernel_rfl
def tk_l239 : List KV := [.mk (.tup [.sym 0 .i64 (16) 14, .sym 1 .i64 (16) 15]) (.bool true)]
theorem tk_lot239 : chainX tk_ft (gl3 1 2 3) 3000 3 tk_l239 = true := by kernel_rfl
end Go.Exe.Tryz
