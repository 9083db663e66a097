/- Three runs of the law's function by the kernel. -/
import Derived.Test.YtdlpbhjihdfoaaaGreatDoorExeFt
import Derived.Test.YtdlpbhjihdfoaaaGreatDoorExeD
set_option maxRecDepth 100000
namespace Go.Exe.Tryz
open Go Go.Exe
theorem vo0 : callX ft (gl3 1 2 3) 3000 4 [.sym 0 .i64 6 0] s0 (fun v _ => isTrue v) = true := by kernel_rfl
theorem vo1 : callX ft (gl3 1 2 3) 3000 4 [.sym 0 .i64 6 1] s0 (fun v _ => isTrue v) = true := by kernel_rfl
theorem vo2 : callX ft (gl3 1 2 3) 3000 4 [.sym 0 .i64 6 2] s0 (fun v _ => isTrue v) = true := by kernel_rfl
end Go.Exe.Tryz
