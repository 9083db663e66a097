/- TwinKinds: runs, part 8 of 26. -/
import Derived.Test.YtoddgmlofhkndaaGreatDoorTkAwake
set_option linter.unusedVariables false
set_option linter.unusedSimpArgs false
set_option maxRecDepth 100000
set_option maxHeartbeats 4000000
namespace Go.Exe.Tryz
open Go Go.Exe
def tk_l7 : List KV := [.mk (.tup [.sym 0 .i64 (16) 0, .sym 1 .i64 (16) 7]) (.bool true)]
theorem tk_lot7 : chainX tk_ft (gl3 1 2 3) 3000 3 tk_l7 = true := by kernel_rfl
def tk_l33 : List KV := [.mk (.tup [.sym 0 .i64 (16) 2, .sym 1 .i64 (16) 1]) (.bool true)]
theorem tk_lot33 : chainX tk_ft (gl3 1 2 3) 3000 3 tk_l33 = true := by kernel_rfl
def tk_l59 : List KV := [.mk (.tup [.sym 0 .i64 (16) 3, .sym 1 .i64 (16) 11]) (.bool true)]
theorem tk_lot59 : chainX tk_ft (gl3 1 2 3) 3000 3 tk_l59 = true := by kernel_rfl
def tk_l85 : List KV := [.mk (.tup [.sym 0 .i64 (16) 5, .sym 1 .i64 (16) 5]) (.bool true)]
theorem tk_lot85 : chainX tk_ft (gl3 1 2 3) 3000 3 tk_l85 = true := by kernel_rfl
def tk_l111 : List KV := [.mk (.tup [.sym 0 .i64 (16) 6, .sym 1 .i64 (16) 15]) (.bool true)]
theorem tk_lot111 : chainX tk_ft (gl3 1 2 3) 3000 3 tk_l111 = true := by kernel_rfl
def tk_l137 : List KV := [.mk (.tup [.sym 0 .i64 (16) 8, .sym 1 .i64 (16) 9]) (.bool true)]
theorem tk_lot137 : chainX tk_ft (gl3 1 2 3) 3000 3 tk_l137 = true := by kernel_rfl
def tk_l163 : List KV := [.mk (.tup [.sym 0 .i64 (16) 10, .sym 1 .i64 (16) 3]) (.bool true)]
theorem tk_lot163 : chainX tk_ft (gl3 1 2 3) 3000 3 tk_l163 = true := by kernel_rfl
def tk_l189 : List KV := [.mk (.tup [.sym 0 .i64 (16) 11, .sym 1 .i64 (16) 13]) (.bool true)]
theorem tk_lot189 : chainX tk_ft (gl3 1 2 3) 3000 3 tk_l189 = true := by kernel_rfl
def tk_l215 : List KV := [.mk (.tup [.sym 0 .i64 (16) 13, .sym 1 .i64 (16) 7]) (.bool true)]
theorem tk_lot215 : chainX tk_ft (gl3 1 2 3) 3000 3 tk_l215 = true := by kernel_rfl
def tk_l241 : List KV := [.mk (.tup [.sym 0 .i64 (16) 15, .sym 1 .i64 (16) 1]) (.bool true)]
theorem tk_lot241 : chainX tk_ft (gl3 1 2 3) 3000 3 tk_l241 = true := by kernel_rfl
end Go.Exe.Tryz
