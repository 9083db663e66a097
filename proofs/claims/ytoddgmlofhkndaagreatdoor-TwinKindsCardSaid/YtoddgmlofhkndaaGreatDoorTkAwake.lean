/- TwinKinds: the run of its awake. -/
import Derived.Test.YtoddgmlofhkndaaGreatDoorExeFt
set_option linter.unusedVariables false
set_option linter.unusedSimpArgs false
set_option maxRecDepth 100000
set_option maxHeartbeats 4000000
namespace Go.Exe.Tryz
open Go Go.Exe
theorem tk_awake : callX ft (gl3 1 2 3) 3000 4 [] s0 (fun v _ => isTrue v) = true := by kernel_rfl
noncomputable def tk_ft : Nat → Fc := ftK ft 4
end Go.Exe.Tryz
