/- What the texts are read as, run by the kernel. Written by program. -/
import Derived.Test.YtoalfeglgioabaaGreatTab
set_option linter.all false
namespace Go.Proofs.YtoalfeglgioabaaGreat
open Go Go.Vse
set_option maxRecDepth 1000000
theorem rd1 (k : Int) : runP orc0 pr 1000 44 [.s p1, .i .i64 k] = some (cqF a1) := by kernel_rfl
theorem rd5 (k : Int) : runP orc0 pr 1000 44 [.s p5, .i .i64 k] = some (cqF a5) := by kernel_rfl
theorem rd9 (k : Int) : runP orc0 pr 1000 44 [.s p9, .i .i64 k] = some (cqF a9) := by kernel_rfl
theorem rd10_3 : runP orc0 pr 1000 44 [.s p10, .i .i64 3] = some (cqF a10) := by kernel_rfl
theorem rd10_7 : runP orc0 pr 1000 44 [.s p10, .i .i64 7] = some (cqF a11) := by kernel_rfl
theorem rd11_3 : runP orc0 pr 1000 44 [.s p11, .i .i64 3] = some (cqF a13) := by kernel_rfl
theorem rd11_7 : runP orc0 pr 1000 44 [.s p11, .i .i64 7] = some (cqF a14) := by kernel_rfl
theorem rd15 (k : Int) : runP orc0 pr 1000 44 [.s p15, .i .i64 k] = some (cqF a19) := by kernel_rfl
end Go.Proofs.YtoalfeglgioabaaGreat
