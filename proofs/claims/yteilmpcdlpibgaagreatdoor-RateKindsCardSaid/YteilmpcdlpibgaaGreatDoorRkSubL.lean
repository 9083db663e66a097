/- RateKinds: calls of its inner function, part 12 of 16. -/
import Derived.Test.YteilmpcdlpibgaaGreatDoorRkAwake
set_option linter.unusedVariables false
set_option linter.unusedSimpArgs false
set_option maxRecDepth 100000
set_option maxHeartbeats 4000000
namespace Go.Exe.Tryz
open Go Go.Exe
def rks_k11 : List Ke := [rk_e55, rk_e56, rk_e57, rk_e58, rk_e59]
def rks_l11 : List KV := [.mk (.tup [.str 8 7811896113396260962]) (.bool false), .mk (.tup [.str 6 107890605891682]) (.bool true), .mk (.tup [.str 5 421447606370]) (.bool false), .mk (.tup [.str 5 421446492258]) (.bool false), .mk (.tup [.str 5 421446623330]) (.bool false)]
theorem rks_lot11 : chainX (ftE rk_ft 194 rks_k11) (gl3 0 2 3) 3000 6 rks_l11 = true := by kernel_rfl
def rks_k27 : List Ke := [rk_e135, rk_e136, rk_e137, rk_e138, rk_e139]
def rks_l27 : List KV := [.mk (.tup [.str 6 108990117519475]) (.bool false), .mk (.tup [.str 5 425742573683]) (.bool false), .mk (.tup [.str 5 425741459571]) (.bool false), .mk (.tup [.str 5 425741590643]) (.bool false), .mk (.tup [.str 6 108989730136179]) (.bool false)]
theorem rks_lot27 : chainX (ftE rk_ft 194 rks_k27) (gl3 0 2 3) 3000 6 rks_l27 = true := by kernel_rfl
def rks_k43 : List Ke := [rk_e215, rk_e216, rk_e217, rk_e218, rk_e219]
def rks_l43 : List KV := [.mk (.tup [.str 6 111189140775024]) (.bool false), .mk (.tup [.str 5 434332508272]) (.bool false), .mk (.tup [.str 5 434331394160]) (.bool false), .mk (.tup [.str 5 434331525232]) (.bool false), .mk (.tup [.str 6 111188753391728]) (.bool false)]
theorem rks_lot43 : chainX (ftE rk_ft 194 rks_k43) (gl3 0 2 3) 3000 6 rks_l43 = true := by kernel_rfl
def rks_k59 : List Ke := [rk_e295, rk_e296, rk_e297, rk_e298, rk_e299]
def rks_l59 : List KV := [.mk (.tup [.str 5 515936886883]) (.bool false), .mk (.tup [.str 5 515935772771]) (.bool false), .mk (.tup [.str 5 515935903843]) (.bool false), .mk (.tup [.str 6 132079474319459]) (.bool false), .mk (.tup [.str 7 11672553624119398]) (.bool false)]
theorem rks_lot59 : chainX (ftE rk_ft 194 rks_k59) (gl3 0 2 3) 3000 6 rks_l59 = true := by kernel_rfl
def rks_k75 : List Ke := [rk_e375, rk_e376, rk_e377, rk_e378, rk_e379]
def rks_l75 : List KV := [.mk (.tup [.str 5 464397279348]) (.bool false), .mk (.tup [.str 5 464396165236]) (.bool false), .mk (.tup [.str 5 464396296308]) (.bool false), .mk (.tup [.str 6 118885334786164]) (.bool false), .mk (.tup [.str 7 11659359485700198]) (.bool false)]
theorem rks_lot75 : chainX (ftE rk_ft 194 rks_k75) (gl3 0 2 3) 3000 6 rks_l75 = true := by kernel_rfl
end Go.Exe.Tryz
