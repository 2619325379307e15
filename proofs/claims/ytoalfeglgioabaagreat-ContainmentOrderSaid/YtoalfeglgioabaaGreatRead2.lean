/- What the texts are read as, run by the kernel. Written by program. -/
import Derived.Test.YtoalfeglgioabaaGreatTab
set_option linter.all false
namespace Go.Proofs.YtoalfeglgioabaaGreat
open Go Go.Vse
set_option maxRecDepth 1000000
theorem rd2 (k : Int) : runP orc0 pr 1000 44 [.s p2, .i .i64 k] = some (cqF a2) := by kernel_rfl
theorem rd6 (k : Int) : runP orc0 pr 1000 44 [.s p6, .i .i64 k] = some (cqF a6) := by kernel_rfl
theorem rd10_0 : runP orc0 pr 1000 44 [.s p10, .i .i64 0] = some (cqF a10) := by kernel_rfl
theorem rd10_4 : runP orc0 pr 1000 44 [.s p10, .i .i64 4] = some (cqF a11) := by kernel_rfl
theorem rd11_0 : runP orc0 pr 1000 44 [.s p11, .i .i64 0] = some (cqF a13) := by kernel_rfl
theorem rd11_4 : runP orc0 pr 1000 44 [.s p11, .i .i64 4] = some (cqF a14) := by kernel_rfl
theorem rd12 (k : Int) : runP orc0 pr 1000 44 [.s p12, .i .i64 k] = some (cqF a16) := by kernel_rfl
theorem rd16 (k : Int) : runP orc0 pr 1000 44 [.s p16, .i .i64 k] = some (cqF a20) := by kernel_rfl
end Go.Proofs.YtoalfeglgioabaaGreat
