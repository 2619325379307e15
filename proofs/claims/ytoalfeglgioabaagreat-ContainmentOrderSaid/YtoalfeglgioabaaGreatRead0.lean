/- What the texts are read as, run by the kernel. Written by program. -/
import Derived.Test.YtoalfeglgioabaaGreatTab
set_option linter.all false
namespace Go.Proofs.YtoalfeglgioabaaGreat
open Go Go.Vse
set_option maxRecDepth 1000000
theorem rd0 (k : Int) : runP orc0 pr 1000 44 [.s p0, .i .i64 k] = some (cqF a0) := by kernel_rfl
theorem rd4 (k : Int) : runP orc0 pr 1000 44 [.s p4, .i .i64 k] = some (cqF a4) := by kernel_rfl
theorem rd8 (k : Int) : runP orc0 pr 1000 44 [.s p8, .i .i64 k] = some (cqF a8) := by kernel_rfl
theorem rd10_2 : runP orc0 pr 1000 44 [.s p10, .i .i64 2] = some (cqF a12) := by kernel_rfl
theorem rd10_6 : runP orc0 pr 1000 44 [.s p10, .i .i64 6] = some (cqF a10) := by kernel_rfl
theorem rd11_2 : runP orc0 pr 1000 44 [.s p11, .i .i64 2] = some (cqF a15) := by kernel_rfl
theorem rd11_6 : runP orc0 pr 1000 44 [.s p11, .i .i64 6] = some (cqF a13) := by kernel_rfl
theorem rd14 (k : Int) : runP orc0 pr 1000 44 [.s p14, .i .i64 k] = some (cqF a18) := by kernel_rfl
end Go.Proofs.YtoalfeglgioabaaGreat
