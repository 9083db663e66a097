/- BindRounds: the run of its awake. -/
import Derived.Test.YtbgehcnapokbmaaGreatDoorExeFt
set_option maxRecDepth 100000
set_option maxHeartbeats 4000000
namespace Go.Exe.Tryz
open Go Go.Exe
theorem br_awake : callX ft (gl3 0 2 3) 3000 5 [] s0 (fun v _ => isTrue v) = true := by kernel_rfl
noncomputable def br_ft : Nat → Fc := ftK ft 5
end Go.Exe.Tryz
