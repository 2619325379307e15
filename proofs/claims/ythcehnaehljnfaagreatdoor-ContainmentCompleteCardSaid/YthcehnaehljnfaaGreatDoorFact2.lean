/- A closed fact of the row: 'recurses' is what the program gives. Conditions: none. -/
import Derived.Test.YthcehnaehljnfaaGreatDoorRows
import Derived.KernelRfl
set_option linter.all false
namespace Go.Proofs.YthcehnaehljnfaaGreatDoor.containmentComplete
set_option maxRecDepth 100000
theorem fRe:(Rows.containmentCompleteRow.recurses==Tryz.prog.recurses 3)=true:=by kernel_rfl
end Go.Proofs.YthcehnaehljnfaaGreatDoor.containmentComplete
