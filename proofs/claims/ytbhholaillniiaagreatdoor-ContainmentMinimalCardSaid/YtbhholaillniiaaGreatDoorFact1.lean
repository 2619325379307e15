/- A closed fact of the row: 'recurses' is what the program gives. Conditions: none. -/
import Derived.Test.YtbhholaillniiaaGreatDoorRows
import Derived.KernelRfl
set_option linter.all false
section
namespace Go.Proofs.YtbhholaillniiaaGreatDoor.containmentMinimal
set_option maxRecDepth 100000
theorem fRe:(Rows.containmentMinimalRow.recurses==Tryz.prog.recurses 3)=true:=by kernel_rfl
end Go.Proofs.YtbhholaillniiaaGreatDoor.containmentMinimal
end
section
namespace Go.Proofs.YtbhholaillniiaaGreatDoor.containmentMinimal
set_option maxRecDepth 100000
theorem fNa:(Rows.containmentMinimalRow.named==Tryz.prog.varsNamed 3)=true:=by kernel_rfl
end Go.Proofs.YtbhholaillniiaaGreatDoor.containmentMinimal
end
