/- RuleLoops: the run of its awake. -/
import Derived.Test.YtkjjeanapehjgaaGreatDoorExeFt
set_option maxRecDepth 100000
namespace Go.Exe.Tryz
open Go Go.Exe
theorem rl_awake : callX ft (gl3 0 2 3) 3000 11 [] s0 (fun v _ => isTrue v) = true := by kernel_rfl
noncomputable def rl_ft : Nat → Fc := ftK ft 11
end Go.Exe.Tryz
