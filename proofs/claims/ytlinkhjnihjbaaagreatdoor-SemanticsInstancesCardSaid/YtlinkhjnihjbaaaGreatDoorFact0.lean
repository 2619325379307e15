/- A closed fact of the row: 'inPlace' is what the program gives. Conditions: none. -/
import Derived.Test.YtlinkhjnihjbaaaGreatDoorRows
import Derived.KernelRfl
set_option linter.all false
namespace Go.Proofs.YtlinkhjnihjbaaaGreatDoor.semanticsInstances
set_option maxRecDepth 100000
theorem fIn:(Rows.semanticsInstancesRow.inPlace==Tryz.prog.inPlace 3)=true:=by kernel_rfl
end Go.Proofs.YtlinkhjnihjbaaaGreatDoor.semanticsInstances
