/- RateKinds: calls of its inner function, part 10 of 16. -/
import Derived.Test.YteilmpcdlpibgaaGreatDoorRkAwake
set_option linter.unusedVariables false
set_option linter.unusedSimpArgs false
set_option maxRecDepth 100000
set_option maxHeartbeats 4000000
namespace Go.Exe.Tryz
open Go Go.Exe
def rks_k9 : List Ke := [rk_e45, rk_e46, rk_e47, rk_e48, rk_e49]
def rks_l9 : List KV := [.mk (.tup [.str 5 498755903608]) (.bool false), .mk (.tup [.str 5 498756034680]) (.bool false), .mk (.tup [.str 6 127681427808376]) (.bool false), .mk (.tup [.str 7 11668155578984550]) (.bool false), .mk (.tup [.str 6 132079861702754]) (.bool false)]
theorem rks_lot9 : chainX (ftE rk_ft 194 rks_k9) (gl3 0 2 3) 3000 6 rks_l9 = true := by kernel_rfl
def rks_k25 : List Ke := [rk_e125, rk_e126, rk_e127, rk_e128, rk_e129]
def rks_l25 : List KV := [.mk (.tup [.str 5 481576034419]) (.bool false), .mk (.tup [.str 5 481576165491]) (.bool false), .mk (.tup [.str 6 123283381297267]) (.bool false), .mk (.tup [.str 7 11663757532145766]) (.bool false), .mk (.tup [.str 6 118885722169459]) (.bool false)]
theorem rks_lot25 : chainX (ftE rk_ft 194 rks_k25) (gl3 0 2 3) 3000 6 rks_l25 = true := by kernel_rfl
def rks_k41 : List Ke := [rk_e205, rk_e206, rk_e207, rk_e208, rk_e209]
def rks_l41 : List KV := [.mk (.tup [.str 5 421446492272]) (.bool false), .mk (.tup [.str 5 421446623344]) (.bool false), .mk (.tup [.str 6 107890218508400]) (.bool false), .mk (.tup [.str 7 11648364369160294]) (.bool false), .mk (.tup [.str 6 126582303563888]) (.bool false)]
theorem rks_lot41 : chainX (ftE rk_ft 194 rks_k41) (gl3 0 2 3) 3000 6 rks_l41 = true := by kernel_rfl
def rks_k57 : List Ke := [rk_e285, rk_e286, rk_e287, rk_e288, rk_e289]
def rks_l57 : List KV := [.mk (.tup [.str 5 425741590636]) (.bool false), .mk (.tup [.str 6 108989730136172]) (.bool false), .mk (.tup [.str 7 11649463880525926]) (.bool false), .mk (.tup [.str 6 127681815191660]) (.bool false), .mk (.tup [.str 5 498757017708]) (.bool false)]
theorem rks_lot57 : chainX (ftE rk_ft 194 rks_k57) (gl3 0 2 3) 3000 6 rks_l57 = true := by kernel_rfl
def rks_k73 : List Ke := [rk_e365, rk_e366, rk_e367, rk_e368, rk_e369]
def rks_l73 : List KV := [.mk (.tup [.str 5 434331525236]) (.bool false), .mk (.tup [.str 6 111188753391732]) (.bool false), .mk (.tup [.str 7 11651662904305766]) (.bool false), .mk (.tup [.str 6 123283768680564]) (.bool false), .mk (.tup [.str 5 481577148532]) (.bool false)]
theorem rks_lot73 : chainX (ftE rk_ft 194 rks_k73) (gl3 0 2 3) 3000 6 rks_l73 = true := by kernel_rfl
end Go.Exe.Tryz
