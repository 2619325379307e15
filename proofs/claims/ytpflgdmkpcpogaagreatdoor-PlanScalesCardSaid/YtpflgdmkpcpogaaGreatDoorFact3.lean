/- A closed fact of the row: 'named' is what the program gives. Conditions: none. -/
import Derived.Test.YtpflgdmkpcpogaaGreatDoorRows
import Derived.KernelRfl
set_option linter.all false
namespace Go.Proofs.YtpflgdmkpcpogaaGreatDoor.planScales
set_option maxRecDepth 100000
theorem fNa : (Rows.planScalesRow.named == Tryz.prog.varsNamed 3) = true := by kernel_rfl
end Go.Proofs.YtpflgdmkpcpogaaGreatDoor.planScales
