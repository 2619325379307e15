/- A closed fact of the row: 'inPlace' is what the program gives. Conditions: none. -/
import Derived.Test.YtbhholaillniiaaGreatDoorRows
import Derived.KernelRfl
set_option linter.all false
section
namespace Go.Proofs.YtbhholaillniiaaGreatDoor.containmentMinimal
set_option maxRecDepth 100000
theorem fIn:(Rows.containmentMinimalRow.inPlace==Tryz.prog.inPlace 3)=true:=by kernel_rfl
end Go.Proofs.YtbhholaillniiaaGreatDoor.containmentMinimal
end
section
namespace Go.Proofs.YtbhholaillniiaaGreatDoor.containmentMinimal
set_option maxRecDepth 100000
theorem fUn:(Rows.containmentMinimalRow.unfollowed==Tryz.prog.unfollowed 3)=true:=by kernel_rfl
end Go.Proofs.YtbhholaillniiaaGreatDoor.containmentMinimal
end
