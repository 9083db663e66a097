/- SnareNames: the run of its awake. -/
import Derived.Test.YtmefakjonbblcaaGreatDoorExeFt
set_option maxRecDepth 100000
namespace Go.Exe.Tryz
open Go Go.Exe
theorem sn_awake : callX ft (gl3 1 2 3) 3000 8 [] s0 (fun v _ => isTrue v) = true := by kernel_rfl
noncomputable def sn_ft : Nat → Fc := ftK ft 8
end Go.Exe.Tryz
