/- VeilLoops: the run of its awake. -/
import Derived.Test.YtmefakjonbblcaaGreatDoorExeFt
set_option maxRecDepth 100000
namespace Go.Exe.Tryz
open Go Go.Exe
theorem vl_awake : callX ft (gl3 1 2 3) 3000 6 [] s0 (fun v _ => isTrue v) = true := by kernel_rfl
noncomputable def vl_ft : Nat → Fc := ftK ft 6
end Go.Exe.Tryz
