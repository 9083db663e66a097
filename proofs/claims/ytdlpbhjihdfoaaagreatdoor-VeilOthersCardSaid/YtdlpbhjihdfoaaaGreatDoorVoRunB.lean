/- Three more runs of the law's function by the kernel. -/
import Derived.Test.YtdlpbhjihdfoaaaGreatDoorExeFt
import Derived.Test.YtdlpbhjihdfoaaaGreatDoorExeD
set_option maxRecDepth 100000
namespace Go.Exe.Tryz
open Go Go.Exe
theorem vo3 : callX ft (gl3 1 2 3) 3000 4 [.sym 0 .i64 6 3] s0 (fun v _ => isTrue v) = true := by kernel_rfl
theorem vo4 : callX ft (gl3 1 2 3) 3000 4 [.sym 0 .i64 6 4] s0 (fun v _ => isTrue v) = true := by kernel_rfl
theorem vo5 : callX ft (gl3 1 2 3) 3000 4 [.sym 0 .i64 6 5] s0 (fun v _ => isTrue v) = true := by kernel_rfl
end Go.Exe.Tryz
