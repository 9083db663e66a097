/- RateKinds: calls of its inner function, part 7 of 16. -/
import Derived.Test.YteilmpcdlpibgaaGreatDoorRkAwake
set_option linter.unusedVariables false
set_option linter.unusedSimpArgs false
set_option maxRecDepth 100000
set_option maxHeartbeats 4000000
namespace Go.Exe.Tryz
open Go Go.Exe
def rks_k6 : List Ke := [rk_e30, rk_e31, rk_e32, rk_e33, rk_e34]
def rks_l6 : List KV := [.mk (.tup [.str 7 11663757532473446]) (.bool false), .mk (.tup [.str 6 118885722169464]) (.bool false), .mk (.tup [.str 5 464397279352]) (.bool false), .mk (.tup [.str 5 464396165240]) (.bool false), .mk (.tup [.str 5 464396296312]) (.bool false)]
theorem rks_lot6 : chainX (ftE rk_ft 194 rks_k6) (gl3 0 2 3) 3000 6 rks_l6 = true := by kernel_rfl
def rks_k22 : List Ke := [rk_e110, rk_e111, rk_e112, rk_e113, rk_e114]
def rks_l22 : List KV := [.mk (.tup [.str 7 11648364369356902]) (.bool false), .mk (.tup [.str 6 126582303563891]) (.bool true), .mk (.tup [.str 5 494462050419]) (.bool true), .mk (.tup [.str 5 494460936307]) (.bool true), .mk (.tup [.str 5 494461067379]) (.bool false)]
theorem rks_lot22 : chainX (ftE rk_ft 194 rks_k22) (gl3 0 2 3) 3000 6 rks_l22 = true := by kernel_rfl
def rks_k38 : List Ke := [rk_e190, rk_e191, rk_e192, rk_e193, rk_e194]
def rks_l38 : List KV := [.mk (.tup [.str 6 127681815191653]) (.bool false), .mk (.tup [.str 5 498757017701]) (.bool false), .mk (.tup [.str 5 498755903589]) (.bool false), .mk (.tup [.str 5 498756034661]) (.bool false), .mk (.tup [.str 6 127681427808357]) (.bool false)]
theorem rks_lot38 : chainX (ftE rk_ft 194 rks_k38) (gl3 0 2 3) 3000 6 rks_l38 = true := by kernel_rfl
def rks_k54 : List Ke := [rk_e270, rk_e271, rk_e272, rk_e273, rk_e274]
def rks_l54 : List KV := [.mk (.tup [.str 6 123283768680556]) (.bool false), .mk (.tup [.str 5 481577148524]) (.bool false), .mk (.tup [.str 5 481576034412]) (.bool false), .mk (.tup [.str 5 481576165484]) (.bool false), .mk (.tup [.str 6 123283381297260]) (.bool false)]
theorem rks_lot54 : chainX (ftE rk_ft 194 rks_k54) (gl3 0 2 3) 3000 6 rks_l54 = true := by kernel_rfl
def rks_k70 : List Ke := [rk_e350, rk_e351, rk_e352, rk_e353, rk_e354]
def rks_l70 : List KV := [.mk (.tup [.str 6 107890605891700]) (.bool false), .mk (.tup [.str 5 421447606388]) (.bool false), .mk (.tup [.str 5 421446492276]) (.bool false), .mk (.tup [.str 5 421446623348]) (.bool false), .mk (.tup [.str 6 107890218508404]) (.bool false)]
theorem rks_lot70 : chainX (ftE rk_ft 194 rks_k70) (gl3 0 2 3) 3000 6 rks_l70 = true := by kernel_rfl
end Go.Exe.Tryz
