/- TwinKinds: runs, part 16 of 26. -/
import Derived.Test.YtoddgmlofhkndaaGreatDoorTkAwake
set_option linter.unusedVariables false
set_option linter.unusedSimpArgs false
set_option maxRecDepth 100000
set_option maxHeartbeats 4000000
namespace Go.Exe.Tryz
open Go Go.Exe
def tk_l15 : List KV := [.mk (.tup [.sym 0 .i64 (16) 0, .sym 1 .i64 (16) 15]) (.bool true)]
theorem tk_lot15 : chainX tk_ft (gl3 1 2 3) 3000 3 tk_l15 = true := by kernel_rfl
def tk_l41 : List KV := [.mk (.tup [.sym 0 .i64 (16) 2, .sym 1 .i64 (16) 9]) (.bool true)]
theorem tk_lot41 : chainX tk_ft (gl3 1 2 3) 3000 3 tk_l41 = true := by kernel_rfl
def tk_l67 : List KV := [.mk (.tup [.sym 0 .i64 (16) 4, .sym 1 .i64 (16) 3]) (.bool true)]
theorem tk_lot67 : chainX tk_ft (gl3 1 2 3) 3000 3 tk_l67 = true := by kernel_rfl
def tk_l93 : List KV := [.mk (.tup [.sym 0 .i64 (16) 5, .sym 1 .i64 (16) 13]) (.bool true)]
theorem tk_lot93 : chainX tk_ft (gl3 1 2 3) 3000 3 tk_l93 = true := by kernel_rfl
def tk_l119 : List KV := [.mk (.tup [.sym 0 .i64 (16) 7, .sym 1 .i64 (16) 7]) (.bool true)]
theorem tk_lot119 : chainX tk_ft (gl3 1 2 3) 3000 3 tk_l119 = true := by kernel_rfl
def tk_l145 : List KV := [.mk (.tup [.sym 0 .i64 (16) 9, .sym 1 .i64 (16) 1]) (.bool true)]
theorem tk_lot145 : chainX tk_ft (gl3 1 2 3) 3000 3 tk_l145 = true := by kernel_rfl
def tk_l171 : List KV := [.mk (.tup [.sym 0 .i64 (16) 10, .sym 1 .i64 (16) 11]) (.bool true)]
theorem tk_lot171 : chainX tk_ft (gl3 1 2 3) 3000 3 tk_l171 = true := by kernel_rfl
def tk_l197 : List KV := [.mk (.tup [.sym 0 .i64 (16) 12, .sym 1 .i64 (16) 5]) (.bool true)]
theorem tk_lot197 : chainX tk_ft (gl3 1 2 3) 3000 3 tk_l197 = true := by kernel_rfl
def tk_l223 : List KV := [.mk (.tup [.sym 0 .i64 (16) 13, .sym 1 .i64 (16) 15]) (.bool true)]
theorem tk_lot223 : chainX tk_ft (gl3 1 2 3) 3000 3 tk_l223 = true := by kernel_rfl
def tk_l249 : List KV := [.mk (.tup [.sym 0 .i64 (16) 15, .sym 1 .i64 (16) 9]) (.bool true)]
theorem tk_lot249 : chainX tk_ft (gl3 1 2 3) 3000 3 tk_l249 = true := by kernel_rfl
end Go.Exe.Tryz
