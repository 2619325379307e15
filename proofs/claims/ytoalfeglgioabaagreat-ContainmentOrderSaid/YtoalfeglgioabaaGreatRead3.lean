/- What the texts are read as, run by the kernel. Written by program. -/
import Derived.Test.YtoalfeglgioabaaGreatTab
set_option linter.all false
namespace Go.Proofs.YtoalfeglgioabaaGreat
open Go Go.Vse
set_option maxRecDepth 1000000
theorem rd3 (k : Int) : runP orc0 pr 1000 44 [.s p3, .i .i64 k] = some (cqF a3) := by kernel_rfl
theorem rd7 (k : Int) : runP orc0 pr 1000 44 [.s p7, .i .i64 k] = some (cqF a7) := by kernel_rfl
theorem rd10_1 : runP orc0 pr 1000 44 [.s p10, .i .i64 1] = some (cqF a11) := by kernel_rfl
theorem rd10_5 : runP orc0 pr 1000 44 [.s p10, .i .i64 5] = some (cqF a12) := by kernel_rfl
theorem rd11_1 : runP orc0 pr 1000 44 [.s p11, .i .i64 1] = some (cqF a14) := by kernel_rfl
theorem rd11_5 : runP orc0 pr 1000 44 [.s p11, .i .i64 5] = some (cqF a15) := by kernel_rfl
theorem rd13 (k : Int) : runP orc0 pr 1000 44 [.s p13, .i .i64 k] = some (cqF a17) := by kernel_rfl
theorem rd17 (k : Int) : runP orc0 pr 1000 44 [.s p17, .i .i64 k] = some (cqF a21) := by kernel_rfl
end Go.Proofs.YtoalfeglgioabaaGreat
