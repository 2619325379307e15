/- The fixed examples of the law, run by the kernel. -/
import Derived.Test.YtoalfeglgioabaaGreatTab
set_option linter.all false
namespace Go.Proofs.YtoalfeglgioabaaGreat
open Go Go.Vse
set_option maxRecDepth 1000000
theorem ans12 : Ans pr 12 [] (.b true) := runP_ans (n := 1000) (orc0_ok pr) (by kernel_rfl)
end Go.Proofs.YtoalfeglgioabaaGreat
