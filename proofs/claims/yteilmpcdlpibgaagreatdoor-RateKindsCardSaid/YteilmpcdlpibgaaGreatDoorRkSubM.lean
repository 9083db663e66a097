/- RateKinds: calls of its inner function, part 13 of 16. -/
import Derived.Test.YteilmpcdlpibgaaGreatDoorRkAwake
set_option linter.unusedVariables false
set_option linter.unusedSimpArgs false
set_option maxRecDepth 100000
set_option maxHeartbeats 4000000
namespace Go.Exe.Tryz
open Go Go.Exe
def rks_k12 : List Ke := [rk_e60, rk_e61, rk_e62, rk_e63, rk_e64]
def rks_l12 : List KV := [.mk (.tup [.str 6 107890218508386]) (.bool true), .mk (.tup [.str 7 11648364368242790]) (.bool false), .mk (.tup [.str 6 126582303563874]) (.bool false), .mk (.tup [.str 5 494462050402]) (.bool false), .mk (.tup [.str 5 494460936290]) (.bool false)]
theorem rks_lot12 : chainX (ftE rk_ft 194 rks_k12) (gl3 0 2 3) 3000 6 rks_l12 = true := by kernel_rfl
def rks_k28 : List Ke := [rk_e140, rk_e141, rk_e142, rk_e143, rk_e144]
def rks_l28 : List KV := [.mk (.tup [.str 7 11649463880984678]) (.bool false), .mk (.tup [.str 6 127681815191667]) (.bool false), .mk (.tup [.str 5 498757017715]) (.bool false), .mk (.tup [.str 5 498755903603]) (.bool false), .mk (.tup [.str 5 498756034675]) (.bool false)]
theorem rks_lot28 : chainX (ftE rk_ft 194 rks_k28) (gl3 0 2 3) 3000 6 rks_l28 = true := by kernel_rfl
def rks_k44 : List Ke := [rk_e220, rk_e221, rk_e222, rk_e223, rk_e224]
def rks_l44 : List KV := [.mk (.tup [.str 7 11651662904043622]) (.bool false), .mk (.tup [.str 6 123283768680560]) (.bool true), .mk (.tup [.str 5 481577148528]) (.bool false), .mk (.tup [.str 5 481576034416]) (.bool false), .mk (.tup [.str 5 481576165488]) (.bool false)]
theorem rks_lot44 : chainX (ftE rk_ft 194 rks_k44) (gl3 0 2 3) 3000 6 rks_l44 = true := by kernel_rfl
def rks_k60 : List Ke := [rk_e300, rk_e301, rk_e302, rk_e303, rk_e304]
def rks_l60 : List KV := [.mk (.tup [.str 8 7811896113396260963]) (.bool true), .mk (.tup [.str 6 107890605891683]) (.bool false), .mk (.tup [.str 5 421447606371]) (.bool false), .mk (.tup [.str 5 421446492259]) (.bool false), .mk (.tup [.str 5 421446623331]) (.bool false)]
theorem rks_lot60 : chainX (ftE rk_ft 194 rks_k60) (gl3 0 2 3) 3000 6 rks_l60 = true := by kernel_rfl
def rks_k76 : List Ke := [rk_e380, rk_e381, rk_e382, rk_e383, rk_e384]
def rks_l76 : List KV := [.mk (.tup [.str 6 108990117519476]) (.bool false), .mk (.tup [.str 5 425742573684]) (.bool false), .mk (.tup [.str 5 425741459572]) (.bool false), .mk (.tup [.str 5 425741590644]) (.bool false), .mk (.tup [.str 6 108989730136180]) (.bool false)]
theorem rks_lot76 : chainX (ftE rk_ft 194 rks_k76) (gl3 0 2 3) 3000 6 rks_l76 = true := by kernel_rfl
end Go.Exe.Tryz
