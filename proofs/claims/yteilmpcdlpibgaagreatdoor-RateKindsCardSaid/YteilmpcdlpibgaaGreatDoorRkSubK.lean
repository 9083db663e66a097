/- RateKinds: calls of its inner function, part 11 of 16. -/
import Derived.Test.YteilmpcdlpibgaaGreatDoorRkAwake
set_option linter.unusedVariables false
set_option linter.unusedSimpArgs false
set_option maxRecDepth 100000
set_option maxHeartbeats 4000000
namespace Go.Exe.Tryz
open Go Go.Exe
def rks_k10 : List Ke := [rk_e50, rk_e51, rk_e52, rk_e53, rk_e54]
def rks_l10 : List KV := [.mk (.tup [.str 5 515936886882]) (.bool false), .mk (.tup [.str 5 515935772770]) (.bool false), .mk (.tup [.str 5 515935903842]) (.bool false), .mk (.tup [.str 6 132079474319458]) (.bool false), .mk (.tup [.str 7 11672553624053862]) (.bool false)]
theorem rks_lot10 : chainX (ftE rk_ft 194 rks_k10) (gl3 0 2 3) 3000 6 rks_l10 = true := by kernel_rfl
def rks_k26 : List Ke := [rk_e130, rk_e131, rk_e132, rk_e133, rk_e134]
def rks_l26 : List KV := [.mk (.tup [.str 5 464397279347]) (.bool false), .mk (.tup [.str 5 464396165235]) (.bool false), .mk (.tup [.str 5 464396296307]) (.bool false), .mk (.tup [.str 6 118885334786163]) (.bool false), .mk (.tup [.str 7 11659359485634662]) (.bool false)]
theorem rks_lot26 : chainX (ftE rk_ft 194 rks_k26) (gl3 0 2 3) 3000 6 rks_l26 = true := by kernel_rfl
def rks_k42 : List Ke := [rk_e210, rk_e211, rk_e212, rk_e213, rk_e214]
def rks_l42 : List KV := [.mk (.tup [.str 5 494462050416]) (.bool false), .mk (.tup [.str 5 494460936304]) (.bool false), .mk (.tup [.str 5 494461067376]) (.bool false), .mk (.tup [.str 6 126581916180592]) (.bool false), .mk (.tup [.str 7 11667056066832486]) (.bool false)]
theorem rks_lot42 : chainX (ftE rk_ft 194 rks_k42) (gl3 0 2 3) 3000 6 rks_l42 = true := by kernel_rfl
def rks_k58 : List Ke := [rk_e290, rk_e291, rk_e292, rk_e293, rk_e294]
def rks_l58 : List KV := [.mk (.tup [.str 5 498755903596]) (.bool false), .mk (.tup [.str 5 498756034668]) (.bool false), .mk (.tup [.str 6 127681427808364]) (.bool false), .mk (.tup [.str 7 11668155578198118]) (.bool false), .mk (.tup [.str 6 132079861702755]) (.bool false)]
theorem rks_lot58 : chainX (ftE rk_ft 194 rks_k58) (gl3 0 2 3) 3000 6 rks_l58 = true := by kernel_rfl
def rks_k74 : List Ke := [rk_e370, rk_e371, rk_e372, rk_e373, rk_e374]
def rks_l74 : List KV := [.mk (.tup [.str 5 481576034420]) (.bool false), .mk (.tup [.str 5 481576165492]) (.bool false), .mk (.tup [.str 6 123283381297268]) (.bool false), .mk (.tup [.str 7 11663757532211302]) (.bool false), .mk (.tup [.str 6 118885722169460]) (.bool false)]
theorem rks_lot74 : chainX (ftE rk_ft 194 rks_k74) (gl3 0 2 3) 3000 6 rks_l74 = true := by kernel_rfl
end Go.Exe.Tryz
