/- RateKinds: calls of its inner function, part 3 of 16. -/
import Derived.Test.YteilmpcdlpibgaaGreatDoorRkAwake
set_option linter.unusedVariables false
set_option linter.unusedSimpArgs false
set_option maxRecDepth 100000
set_option maxHeartbeats 4000000
namespace Go.Exe.Tryz
open Go Go.Exe
def rks_k2 : List Ke := [rk_e10, rk_e11, rk_e12, rk_e13, rk_e14]
def rks_l2 : List KV := [.mk (.tup [.str 5 421446623352]) (.bool false), .mk (.tup [.str 6 107890218508408]) (.bool false), .mk (.tup [.str 7 11648364369684582]) (.bool false), .mk (.tup [.str 6 126582303563896]) (.bool false), .mk (.tup [.str 5 494462050424]) (.bool false)]
theorem rks_lot2 : chainX (ftE rk_ft 194 rks_k2) (gl3 0 2 3) 3000 6 rks_l2 = true := by kernel_rfl
def rks_k18 : List Ke := [rk_e90, rk_e91, rk_e92, rk_e93, rk_e94]
def rks_l18 : List KV := [.mk (.tup [.str 6 108989730136162]) (.bool false), .mk (.tup [.str 7 11649463879870566]) (.bool false), .mk (.tup [.str 6 127681815191650]) (.bool false), .mk (.tup [.str 5 498757017698]) (.bool false), .mk (.tup [.str 5 498755903586]) (.bool false)]
theorem rks_lot18 : chainX (ftE rk_ft 194 rks_k18) (gl3 0 2 3) 3000 6 rks_l18 = true := by kernel_rfl
def rks_k34 : List Ke := [rk_e170, rk_e171, rk_e172, rk_e173, rk_e174]
def rks_l34 : List KV := [.mk (.tup [.str 6 111188753391717]) (.bool false), .mk (.tup [.str 7 11651662903322726]) (.bool false), .mk (.tup [.str 6 123283768680549]) (.bool false), .mk (.tup [.str 5 481577148517]) (.bool false), .mk (.tup [.str 5 481576034405]) (.bool false)]
theorem rks_lot34 : chainX (ftE rk_ft 194 rks_k34) (gl3 0 2 3) 3000 6 rks_l34 = true := by kernel_rfl
def rks_k50 : List Ke := [rk_e250, rk_e251, rk_e252, rk_e253, rk_e254]
def rks_l50 : List KV := [.mk (.tup [.str 7 11672553624709222]) (.bool false), .mk (.tup [.str 8 7811896113396260972]) (.bool true), .mk (.tup [.str 6 107890605891692]) (.bool false), .mk (.tup [.str 5 421447606380]) (.bool false), .mk (.tup [.str 5 421446492268]) (.bool false)]
theorem rks_lot50 : chainX (ftE rk_ft 194 rks_k50) (gl3 0 2 3) 3000 6 rks_l50 = true := by kernel_rfl
def rks_k66 : List Ke := [rk_e330, rk_e331, rk_e332, rk_e333, rk_e334]
def rks_l66 : List KV := [.mk (.tup [.str 7 11659359484586086]) (.bool false), .mk (.tup [.str 6 108990117519459]) (.bool true), .mk (.tup [.str 5 425742573667]) (.bool false), .mk (.tup [.str 5 425741459555]) (.bool false), .mk (.tup [.str 5 425741590627]) (.bool false)]
theorem rks_lot66 : chainX (ftE rk_ft 194 rks_k66) (gl3 0 2 3) 3000 6 rks_l66 = true := by kernel_rfl
end Go.Exe.Tryz
