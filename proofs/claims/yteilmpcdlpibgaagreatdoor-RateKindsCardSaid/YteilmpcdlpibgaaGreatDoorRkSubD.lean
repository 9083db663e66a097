/- RateKinds: calls of its inner function, part 4 of 16. -/
import Derived.Test.YteilmpcdlpibgaaGreatDoorRkAwake
set_option linter.unusedVariables false
set_option linter.unusedSimpArgs false
set_option maxRecDepth 100000
set_option maxHeartbeats 4000000
namespace Go.Exe.Tryz
open Go Go.Exe
def rks_k3 : List Ke := [rk_e15, rk_e16, rk_e17, rk_e18, rk_e19]
def rks_l3 : List KV := [.mk (.tup [.str 5 494460936312]) (.bool false), .mk (.tup [.str 5 494461067384]) (.bool false), .mk (.tup [.str 6 126581916180600]) (.bool false), .mk (.tup [.str 7 11667056067356774]) (.bool true), .mk (.tup [.str 6 111189140775032]) (.bool false)]
theorem rks_lot3 : chainX (ftE rk_ft 194 rks_k3) (gl3 0 2 3) 3000 6 rks_l3 = true := by kernel_rfl
def rks_k19 : List Ke := [rk_e95, rk_e96, rk_e97, rk_e98, rk_e99]
def rks_l19 : List KV := [.mk (.tup [.str 5 498756034658]) (.bool false), .mk (.tup [.str 6 127681427808354]) (.bool false), .mk (.tup [.str 7 11668155577542758]) (.bool false), .mk (.tup [.str 6 132079861702771]) (.bool false), .mk (.tup [.str 5 515936886899]) (.bool false)]
theorem rks_lot19 : chainX (ftE rk_ft 194 rks_k19) (gl3 0 2 3) 3000 6 rks_l19 = true := by kernel_rfl
def rks_k35 : List Ke := [rk_e175, rk_e176, rk_e177, rk_e178, rk_e179]
def rks_l35 : List KV := [.mk (.tup [.str 5 481576165477]) (.bool false), .mk (.tup [.str 6 123283381297253]) (.bool false), .mk (.tup [.str 7 11663757531228262]) (.bool false), .mk (.tup [.str 6 118885722169445]) (.bool false), .mk (.tup [.str 5 464397279333]) (.bool false)]
theorem rks_lot35 : chainX (ftE rk_ft 194 rks_k35) (gl3 0 2 3) 3000 6 rks_l35 = true := by kernel_rfl
def rks_k51 : List Ke := [rk_e255, rk_e256, rk_e257, rk_e258, rk_e259]
def rks_l51 : List KV := [.mk (.tup [.str 5 421446623340]) (.bool false), .mk (.tup [.str 6 107890218508396]) (.bool false), .mk (.tup [.str 7 11648364368898150]) (.bool false), .mk (.tup [.str 6 126582303563884]) (.bool false), .mk (.tup [.str 5 494462050412]) (.bool false)]
theorem rks_lot51 : chainX (ftE rk_ft 194 rks_k51) (gl3 0 2 3) 3000 6 rks_l51 = true := by kernel_rfl
def rks_k67 : List Ke := [rk_e335, rk_e336, rk_e337, rk_e338, rk_e339]
def rks_l67 : List KV := [.mk (.tup [.str 6 108989730136163]) (.bool false), .mk (.tup [.str 7 11649463879936102]) (.bool false), .mk (.tup [.str 6 127681815191651]) (.bool false), .mk (.tup [.str 5 498757017699]) (.bool false), .mk (.tup [.str 5 498755903587]) (.bool false)]
theorem rks_lot67 : chainX (ftE rk_ft 194 rks_k67) (gl3 0 2 3) 3000 6 rks_l67 = true := by kernel_rfl
end Go.Exe.Tryz
