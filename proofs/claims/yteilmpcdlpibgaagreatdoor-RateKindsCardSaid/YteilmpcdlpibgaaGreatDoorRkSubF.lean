/- RateKinds: calls of its inner function, part 6 of 16. -/
import Derived.Test.YteilmpcdlpibgaaGreatDoorRkAwake
set_option linter.unusedVariables false
set_option linter.unusedSimpArgs false
set_option maxRecDepth 100000
set_option maxHeartbeats 4000000
namespace Go.Exe.Tryz
open Go Go.Exe
def rks_k5 : List Ke := [rk_e25, rk_e26, rk_e27, rk_e28, rk_e29]
def rks_l5 : List KV := [.mk (.tup [.str 6 123283768680568]) (.bool false), .mk (.tup [.str 5 481577148536]) (.bool false), .mk (.tup [.str 5 481576034424]) (.bool false), .mk (.tup [.str 5 481576165496]) (.bool false), .mk (.tup [.str 6 123283381297272]) (.bool false)]
theorem rks_lot5 : chainX (ftE rk_ft 194 rks_k5) (gl3 0 2 3) 3000 6 rks_l5 = true := by kernel_rfl
def rks_k21 : List Ke := [rk_e105, rk_e106, rk_e107, rk_e108, rk_e109]
def rks_l21 : List KV := [.mk (.tup [.str 6 107890605891699]) (.bool false), .mk (.tup [.str 5 421447606387]) (.bool false), .mk (.tup [.str 5 421446492275]) (.bool false), .mk (.tup [.str 5 421446623347]) (.bool false), .mk (.tup [.str 6 107890218508403]) (.bool false)]
theorem rks_lot21 : chainX (ftE rk_ft 194 rks_k21) (gl3 0 2 3) 3000 6 rks_l21 = true := by kernel_rfl
def rks_k37 : List Ke := [rk_e185, rk_e186, rk_e187, rk_e188, rk_e189]
def rks_l37 : List KV := [.mk (.tup [.str 5 425742573669]) (.bool false), .mk (.tup [.str 5 425741459557]) (.bool false), .mk (.tup [.str 5 425741590629]) (.bool false), .mk (.tup [.str 6 108989730136165]) (.bool false), .mk (.tup [.str 7 11649463880067174]) (.bool false)]
theorem rks_lot37 : chainX (ftE rk_ft 194 rks_k37) (gl3 0 2 3) 3000 6 rks_l37 = true := by kernel_rfl
def rks_k53 : List Ke := [rk_e265, rk_e266, rk_e267, rk_e268, rk_e269]
def rks_l53 : List KV := [.mk (.tup [.str 5 434332508268]) (.bool false), .mk (.tup [.str 5 434331394156]) (.bool false), .mk (.tup [.str 5 434331525228]) (.bool false), .mk (.tup [.str 6 111188753391724]) (.bool false), .mk (.tup [.str 7 11651662903781478]) (.bool false)]
theorem rks_lot53 : chainX (ftE rk_ft 194 rks_k53) (gl3 0 2 3) 3000 6 rks_l53 = true := by kernel_rfl
def rks_k69 : List Ke := [rk_e345, rk_e346, rk_e347, rk_e348, rk_e349]
def rks_l69 : List KV := [.mk (.tup [.str 5 515935772788]) (.bool false), .mk (.tup [.str 5 515935903860]) (.bool false), .mk (.tup [.str 6 132079474319476]) (.bool false), .mk (.tup [.str 7 11672553625233510]) (.bool false), .mk (.tup [.str 8 7811896113396260980]) (.bool false)]
theorem rks_lot69 : chainX (ftE rk_ft 194 rks_k69) (gl3 0 2 3) 3000 6 rks_l69 = true := by kernel_rfl
end Go.Exe.Tryz
